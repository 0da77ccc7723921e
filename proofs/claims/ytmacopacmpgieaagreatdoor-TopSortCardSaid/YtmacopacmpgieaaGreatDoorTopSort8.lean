/- Pl44, Pl44b, Nm44, Pn44, AdT, TcT, Ca in one text. -/
import Derived.Test.YtmacopacmpgieaaGreatDoorTopSort3
import Derived.Test.YtmacopacmpgieaaGreatDoorTopSort7
import Derived.Test.YtmacopacmpgieaaGreatDoorTopSort6
import Derived.Test.YtmacopacmpgieaaGreatDoorTopSort4
import Derived.Lib.ItoaNum
import Derived.Lib.AtoiAllCases
import Derived.Lib.AppendIntMem
import Derived.Lib.SmallJoins
import Derived.Test.YtmacopacmpgieaaGreatDoorRows
import Derived.ProofKit
import Derived.LaidMore
import Derived.Stop.Joined
import Derived.Lib.LaidTab
import Derived.Shelf.Vars
import Derived.Handed
import Derived.Lay
import Derived.Test.YtmacopacmpgieaaGreatDoorTopSort5
set_option linter.unusedVariables false
set_option linter.unusedSimpArgs false
namespace Go.Proofs.YtmacopacmpgieaaGreatDoor
open Go.GV
namespace R44
open Srt (Cmp)
def most (k : Int) : Int := if k = 0 then 200 else if k = 1 then 18 else if k = 2 then 8 else 0
def fok (f : SortField) : Bool := decide (0 ≤ f.At) && decide (f.At ≤ 1000) && decide (1 ≤ f.Length) && decide (f.Length ≤ most f.Kind) && decide (f.At + f.Length ≤ 1000)
def valid (l : List SortField) : Bool := l.all fok && decide ((l.length : Int) ≤ 8)
theorem most_le (k : Int) : most k ≤ 200 := by unfold most; split <;> (try split) <;> (try split) <;> omega
theorem fok_facts {f : SortField} (h : fok f = true) : 0 ≤ f.At ∧ f.At ≤ 1000 ∧ 1 ≤ f.Length ∧ f.Length ≤ most f.Kind ∧ f.At + f.Length ≤ 1000 := by
  unfold fok at h
  simp only [Bool.and_eq_true, decide_eq_true_eq] at h
  omega
theorem fok_kind {f : SortField} (h : fok f = true) : f.Kind = 0 ∨ (f.Kind = 1 ∧ f.Length ≤ 18) ∨ (f.Kind = 2 ∧ f.Length ≤ 8) := by
  have h := (fok_facts h)
  unfold most at h
  by_cases h0 : f.Kind = 0
  · exact .inl h0
  · rw [if_neg h0] at h
    by_cases h1 : f.Kind = 1
    · rw [if_pos h1] at h; exact .inr (.inl ⟨h1, by omega⟩)
    · rw [if_neg h1] at h
      by_cases h2 : f.Kind = 2
      · rw [if_pos h2] at h; exact .inr (.inr ⟨h2, by omega⟩)
      · rw [if_neg h2] at h; omega
theorem valid_facts {l : List SortField} (h : valid l = true) : l.length ≤ 8 ∧ ∀ i, i < l.length → fok (l.getD i default) = true := by
  unfold valid at h
  simp only [Bool.and_eq_true, decide_eq_true_eq, List.all_eq_true] at h
  refine ⟨by omega, fun i hi => h.1 _ ?_⟩
  rw [List.getD_eq_getElem?_getD, List.getElem?_eq_getElem hi]
  exact List.getElem_mem hi
def fld (s : Bytes) (f : SortField) : Bytes := (List.range f.Length.toNat).map fun j => s.getD (f.At.toNat + j) 32
def num : Bytes → Int → Option Int
  | [], n => some n
  | c :: r, n => if 48 ≤ c.toNat ∧ c.toNat ≤ 57 then num r (10 * n + ((c.toNat : Int) - 48)) else none
def trimL (s : Bytes) : Bytes := s.dropWhile (· == 32)
def trimR (s : Bytes) : Bytes := (s.reverse.dropWhile (· == 32)).reverse
def dec (s : Bytes) : Option Int := if (trimR (trimL s)).head? = some 45 then (if (trimR (trimL s)).tail = [] then none else (num (trimR (trimL s)).tail 0).map fun n => -n) else if trimR (trimL s) = [] then none else num (trimR (trimL s)) 0
def bin (s : Bytes) : Int := s.tail.foldl (fun n c => 256 * n + c.toNat) (int8 (s.headD 0))
def cmpI (x y : Int) : Int := if x < y then -1 else if y < x then 1 else 0
def cmpO : Option Int → Option Int → Int
  | some x, some y => cmpI x y
  | some _, none => 1
  | none, some _ => -1
  | none, none => 0
def cmpS (a b : Bytes) : Int := if Op.bytesLess a b = true then -1 else if a = b then 0 else 1
def cmpF (f : SortField) (a b : Bytes) : Int := if f.Kind = 1 then cmpO (dec (fld a f)) (dec (fld b f)) else if f.Kind = 2 then cmpI (bin (fld a f)) (bin (fld b f)) else cmpS (fld a f) (fld b f)
def cmp1 (f : SortField) (a b : Bytes) : Int := if f.Descending = true then -cmpF f a b else cmpF f a b
def cmpL : List SortField → Bytes → Bytes → Int
  | [], _, _ => 0
  | f :: r, a, b => if cmp1 f a b ≠ 0 then cmp1 f a b else cmpL r a b
theorem cmpI_ok : Cmp cmpI := by
  constructor
  · intro a b; unfold cmpI; split <;> split <;> omega
  · intro a b d; unfold cmpI; split <;> split <;> (try split) <;> (try split) <;> (try split) <;> (try split) <;> omega
theorem cmpO_ok : Cmp cmpO := by
  constructor
  · intro a b
    cases a <;> cases b <;> simp only [cmpO]
    · rfl
    · rfl
    · exact cmpI_ok.anti _ _
  · intro a b d; cases a <;> cases b <;> cases d <;> simp only [cmpO] <;> first | omega | exact cmpI_ok.trans _ _ _
theorem cmpS_lt {a b : Bytes} (h : Ord.lt a b) : cmpS a b = -1 := if_pos h
theorem cmpS_self (a : Bytes) : cmpS a a = 0 := (if_neg (Ord.irr a)).trans (if_pos rfl)
theorem cmpS_gt {a b : Bytes} (h : Ord.lt b a) : cmpS a b = 1 := (if_neg (Ord.asymm h)).trans (if_neg fun e => Ord.irr a (by rw [← e] at h; exact h))
theorem cmpS_le {x y : Bytes} (h : cmpS x y ≤ 0) : Ord.lt x y ∨ x = y := by
  rcases Ord.tri x y with h2 | h2 | h2
  · exact .inl h2
  · exact .inr h2
  · rw [cmpS_gt h2] at h; omega
theorem cmpS_ok : Cmp cmpS := by
  constructor
  · intro a b
    rcases Ord.tri a b with h | h | h
    · rw [cmpS_lt h, cmpS_gt h]; rfl
    · subst h; rw [cmpS_self]; rfl
    · rw [cmpS_lt h, cmpS_gt h]
  · intro a b d h1 h2
    rcases cmpS_le h1 with h1 | rfl
    · rcases cmpS_le h2 with h2 | rfl
      · rw [cmpS_lt (Ord.trans h1 h2)]; omega
      · rw [cmpS_lt h1]; omega
    · exact h2
theorem cmp_map {α β : Type} {c : α → α → Int} (h : Cmp c) (f : β → α) : Cmp fun a b => c (f a) (f b) := ⟨fun _ _ => h.anti _ _, fun _ _ _ => h.trans _ _ _⟩
theorem cmpF_ok (f : SortField) : Cmp (cmpF f) := by
  by_cases h1 : f.Kind = 1
  · have : cmpF f = fun a b => cmpO (dec (fld a f)) (dec (fld b f)) := by funext a b; unfold cmpF; rw [if_pos h1]
    rw [this]; exact cmp_map cmpO_ok _
  · by_cases h2 : f.Kind = 2
    · have : cmpF f = fun a b => cmpI (bin (fld a f)) (bin (fld b f)) := by funext a b; unfold cmpF; rw [if_neg h1, if_pos h2]
      rw [this]; exact cmp_map cmpI_ok _
    · have : cmpF f = fun a b => cmpS (fld a f) (fld b f) := by funext a b; unfold cmpF; rw [if_neg h1, if_neg h2]
      rw [this]; exact cmp_map cmpS_ok _
theorem cmp1_ok (f : SortField) : Cmp (cmp1 f) := by
  have h := cmpF_ok f
  constructor
  · intro a b; unfold cmp1; have := h.anti a b; split <;> omega
  · intro a b d; unfold cmp1; split
    · have h1 := h.trans d b a; have := h.anti a b; have := h.anti b d; have := h.anti a d
      intro h2 h3; have := h1 (by omega) (by omega); omega
    · exact h.trans a b d
theorem cmpL_ok : ∀ l : List SortField, Cmp (cmpL l)
  | [] => ⟨fun _ _ => rfl, fun _ _ _ _ _ => Int.le_refl 0⟩
  | f :: r => by
    have h := cmp1_ok f
    have ih := cmpL_ok r
    constructor
    · intro a b
      have := h.anti a b
      unfold cmpL
      by_cases h0 : cmp1 f a b = 0
      · rw [if_neg (by omega), if_neg (by omega)]; exact ih.anti a b
      · rw [if_pos (by omega), if_pos h0]; exact this
    · intro a b d h1 h2
      unfold cmpL at *
      have t := h.trans a b d
      by_cases h3 : cmp1 f a b = 0
      · rw [if_neg (by omega)] at h1
        by_cases h4 : cmp1 f b d = 0
        · rw [if_neg (by omega)] at h2
          have t2 := h.trans d b a (by have := h.anti b d; omega) (by have := h.anti a b; omega)
          have := h.anti a d
          rw [if_neg (by have := t (by omega) (by omega); omega)]
          exact ih.trans _ _ _ h1 h2
        · rw [if_pos h4] at h2
          have := h.le_lt (a := a) (b := b) (d := d) (by omega) (by omega)
          rw [if_pos (by omega)]; omega
      · rw [if_pos h3] at h1
        have h5 : cmp1 f b d ≤ 0 := by
          by_cases h4 : cmp1 f b d = 0
          · omega
          · rw [if_pos h4] at h2; exact h2
        have := h.lt_le (a := a) (b := b) (d := d) (by omega) h5
        rw [if_pos (by omega)]; omega
def Tri (n : Int) : Prop := n = -1 ∨ n = 0 ∨ n = 1
theorem cmpI_tri (x y : Int) : Tri (cmpI x y) := by unfold cmpI Tri; split <;> (try split) <;> omega
theorem cmpO_tri (x y : Option Int) : Tri (cmpO x y) := by
  cases x <;> cases y <;> simp only [cmpO]
  · exact .inr (.inl rfl)
  · exact .inl rfl
  · exact .inr (.inr rfl)
  · exact cmpI_tri _ _
theorem cmpS_tri (x y : Bytes) : Tri (cmpS x y) := by unfold cmpS Tri; split <;> (try split) <;> omega
theorem cmpF_tri (f : SortField) (a b : Bytes) : Tri (cmpF f a b) := by
  unfold cmpF; split
  · exact cmpO_tri _ _
  · split
    · exact cmpI_tri _ _
    · exact cmpS_tri _ _
theorem cmp1_tri (f : SortField) (a b : Bytes) : Tri (cmp1 f a b) := by
  have := cmpF_tri f a b
  unfold cmp1; split
  · unfold Tri at *; omega
  · exact this
theorem cmpL_tri : ∀ (l : List SortField) (a b : Bytes), Tri (cmpL l a b)
  | [], _, _ => .inr (.inl rfl)
  | f :: r, a, b => by
    unfold cmpL; split
    · exact cmp1_tri f a b
    · exact cmpL_tri r a b
end R44
end Go.Proofs.YtmacopacmpgieaaGreatDoor

namespace Go.Proofs.YtmacopacmpgieaaGreatDoor
open Go.GV
namespace R44
theorem fld_len (s : Bytes) (f : SortField) : (fld s f).length = f.Length.toNat := by unfold fld; simp
theorem rep_one (n : Nat) : rep [32] n = List.replicate n 32 := by
  induction n with
  | zero => rfl
  | succ n ih => rw [List.replicate_succ, rep, ih]; rfl
theorem sub_len (s : Bytes) (i j : Nat) (h : j ≤ s.length) : (sub s i j).length = j - i := by unfold sub; simp; omega
theorem fld_none {s : Bytes} {f : SortField} (h : (s.length : Int) ≤ f.At) : [] ++ rep [32] (f.Length - 0).toNat = fld s f := by
  rw [rep_one, List.nil_append]
  unfold fld
  apply List.ext_getElem
  · simp
  · intro i h1 h2
    simp at h1 h2 ⊢
    rw [List.getElem?_eq_none (by omega)]; rfl
theorem fld_some {s : Bytes} {f : SortField} {j : Nat} (h0 : 0 ≤ f.At) (h1 : 1 ≤ f.Length) (h : f.At < (s.length : Int)) (hj : (j : Int) = min (s.length : Int) (f.At + f.Length)) : sub s f.At.toNat j ++ rep [32] (f.Length - ((sub s f.At.toNat j).length : Nat)).toNat = fld s f := by
  have hjl : j ≤ s.length := by omega
  rw [rep_one, sub_len s _ _ hjl]
  unfold fld sub
  apply List.ext_getElem
  · simp; omega
  · intro i h2 h3
    simp at h3
    rw [List.getElem_append]
    split
    · rename_i h4
      simp at h4
      simp
      rw [List.getElem?_eq_getElem (by omega)]; rfl
    · rename_i h4
      simp at h4
      simp
      rw [List.getElem?_eq_none (by omega)]; rfl
def fldN (s : Bytes) (a k : Nat) : Bytes := (List.range k).map fun j => s.getD (a + j) 32
theorem drop_cons {α : Type} {l : List α} {k : Nat} {d : α} (h : k < l.length) : l.drop k = l.getD k d :: l.drop (k + 1) := by
  rw [List.drop_eq_getElem_cons h, List.getD_eq_getElem?_getD, List.getElem?_eq_getElem h]; rfl
theorem num_step {l : Bytes} {k : Nat} {n : Int} (hk : k < l.length) (h1 : 48 ≤ (l.getD k 0).toNat) (h2 : (l.getD k 0).toNat ≤ 57) : num (l.drop k) n = num (l.drop (k + 1)) (10 * n + (((l.getD k 0).toNat : Int) - 48)) := by
  rw [drop_cons (d := 0) hk, num, if_pos ⟨h1, h2⟩]
theorem num_bad {l : Bytes} {k : Nat} {n : Int} (hk : k < l.length) (h : ¬ (48 ≤ (l.getD k 0).toNat ∧ (l.getD k 0).toNat ≤ 57)) : num (l.drop k) n = none := by
  rw [drop_cons (d := 0) hk, num, if_neg h]
theorem num_end {l : Bytes} {k : Nat} {n : Int} (hk : l.length ≤ k) : num (l.drop k) n = some n := by rw [List.drop_of_length_le hk]; rfl
theorem pow_step {n : Int} {k : Nat} {c : UInt8} (h0 : 0 ≤ n) (h : n < 10 ^ k) (h1 : 48 ≤ c.toNat) (h2 : c.toNat ≤ 57) : 0 ≤ 10 * n + ((c.toNat : Int) - 48) ∧ 10 * n + ((c.toNat : Int) - 48) < 10 ^ (k + 1) := by
  rw [Int.pow_succ]; omega
theorem pow_le {k : Nat} (h : k ≤ 18) : (10 : Int) ^ k ≤ 1000000000000000000 := by
  have : (10 : Nat) ^ k ≤ 10 ^ 18 := Nat.pow_le_pow_right (by decide) h
  have h2 : ((10 ^ k : Nat) : Int) ≤ ((10 ^ 18 : Nat) : Int) := by exact_mod_cast this
  simpa using h2
theorem sub48 {c : UInt8} (h : 48 ≤ c.toNat) : ((c - 48).toNat : Int) = (c.toNat : Int) - 48 := by
  rw [UInt8.toNat_sub_of_le _ _ (by rw [UInt8.le_iff_toNat_le]; exact h)]
  show ((c.toNat - 48 : Nat) : Int) = _
  omega
def isDig (c : UInt8) : Bool := decide (48 ≤ c.toNat) && decide (c.toNat ≤ 57)
def val (l : Bytes) : Int := l.foldl (fun n c => 10 * n + ((c.toNat : Int) - 48)) 0
theorem trimL_len (s : Bytes) : (trimL s).length ≤ s.length := (List.dropWhile_sublist _).length_le
theorem trimR_len (s : Bytes) : (trimR s).length ≤ s.length := by
  unfold trimR; rw [List.length_reverse]
  have := (List.dropWhile_sublist (l := s.reverse) (· == (32 : UInt8))).length_le
  rwa [List.length_reverse] at this
theorem trimR_app {l m : Bytes} (hm : ∀ c ∈ m, c = 32) : trimR (l ++ m) = trimR l := by
  unfold trimR
  congr 1
  rw [List.reverse_append]
  have : ∀ (x y : Bytes), (∀ c ∈ x, c = 32) → (x ++ y).dropWhile (· == 32) = y.dropWhile (· == 32) := by
    intro x y hx
    induction x with
    | nil => rfl
    | cons c x ih =>
      rw [List.cons_append, List.dropWhile_cons, if_pos (by simpa using hx c List.mem_cons_self)]
      exact ih fun d hd => hx d (List.mem_cons_of_mem _ hd)
  exact this _ _ fun c hc => hm c (List.mem_reverse.1 hc)
theorem trimR_id {l : Bytes} {c : UInt8} (hc : c ≠ 32) : trimR (l ++ [c]) = l ++ [c] := by
  unfold trimR
  rw [List.reverse_append]
  show (((c :: l.reverse).dropWhile _)).reverse = _
  rw [List.dropWhile_cons, if_neg (by simpa using hc)]
  simp
theorem trimL_all {m : Bytes} : trimL m = [] ↔ ∀ c ∈ m, c = 32 := by
  unfold trimL
  induction m with
  | nil => simp
  | cons c m ih =>
    rw [List.dropWhile_cons]
    by_cases hc : c = 32
    · rw [if_pos (by simpa using hc), ih]; simp [hc]
    · rw [if_neg (by simpa using hc)]; simp [hc]
theorem take_blank : ∀ (l : Bytes), ∀ c ∈ l.takeWhile (· == (32 : UInt8)), c = 32
  | [], _, h => by cases h
  | d :: l, c, h => by
    rw [List.takeWhile_cons] at h
    split at h
    · rename_i hd
      rcases List.mem_cons.1 h with rfl | h
      · simpa using hd
      · exact take_blank l c h
    · cases h
theorem trimR_split (l : Bytes) : ∃ m, l = trimR l ++ m ∧ (∀ c ∈ m, c = 32) ∧ (trimR l = [] ∨ ∃ t c, trimR l = t ++ [c] ∧ c ≠ 32) := by
  have h := List.takeWhile_append_dropWhile (p := (· == (32 : UInt8))) (l := l.reverse)
  refine ⟨(l.reverse.takeWhile (· == 32)).reverse, ?_, ?_, ?_⟩
  · unfold trimR
    rw [← List.reverse_append, h, List.reverse_reverse]
  · intro c hc
    exact take_blank _ c (List.mem_reverse.1 hc)
  · unfold trimR
    cases hd : l.reverse.dropWhile (· == 32) with
    | nil => exact .inl rfl
    | cons c t =>
      refine .inr ⟨t.reverse, c, by rw [List.reverse_cons], ?_⟩
      have := List.head_dropWhile_not (p := (· == (32 : UInt8))) (l := l.reverse) (by rw [hd]; simp)
      simp only [hd, List.head_cons] at this
      simpa using this
def RefNum (s : Bytes) (n : Int) (ok : Bool) : Prop := ok = (dec s).isSome ∧ ∀ x, dec s = some x → n = x
theorem bin_one (c : UInt8) : bin [c] = int8 c := rfl
theorem bin_snoc {l : Bytes} (h : l ≠ []) (c : UInt8) : bin (l ++ [c]) = 256 * bin l + (c.toNat : Int) := by
  unfold bin
  cases l with
  | nil => exact absurd rfl h
  | cons d t => simp [List.foldl_append]
theorem bin_bound : ∀ (n : Nat) (l : Bytes), l.length = n + 1 → -(128 * 256 ^ n) ≤ bin l ∧ bin l < 128 * 256 ^ n
  | 0, l, h => by
    obtain ⟨c, rfl⟩ := List.length_eq_one_iff.1 h
    rw [bin_one]; have := int8_lt c; simp; omega
  | n + 1, l, h => by
    have hne : l ≠ [] := by intro e; subst e; simp at h
    have e := List.dropLast_concat_getLast hne
    have hl : l.dropLast.length = n + 1 := by rw [List.length_dropLast]; omega
    have ih := bin_bound n l.dropLast hl
    rw [← e, bin_snoc (by intro e2; rw [e2] at hl; simp at hl)]
    have := (l.getLast hne).toNat_lt
    rw [Int.pow_succ]
    omega
theorem bin_small {l : Bytes} (h0 : 0 < l.length) (h : l.length ≤ 7) : -36028797018963968 ≤ bin l ∧ bin l < 36028797018963968 := by
  have hb := bin_bound (l.length - 1) l (by omega)
  have hp : (256 : Nat) ^ (l.length - 1) ≤ 256 ^ 6 := Nat.pow_le_pow_right (by decide) (by omega)
  have h2 : ((256 ^ (l.length - 1) : Nat) : Int) ≤ ((256 ^ 6 : Nat) : Int) := by exact_mod_cast hp
  have h3 : ((256 ^ (l.length - 1) : Nat) : Int) = (256 : Int) ^ (l.length - 1) := by simp
  rw [h3] at h2
  have h4 : ((256 ^ 6 : Nat) : Int) = 281474976710656 := by decide
  omega
theorem take_snoc {α : Type} {l : List α} {k : Nat} {d : α} (h : k < l.length) : l.take (k + 1) = l.take k ++ [l.getD k d] := by
  rw [List.take_succ_eq_append_getElem h, List.getD_eq_getElem?_getD, List.getElem?_eq_getElem h]; rfl
theorem bin_step {l : Bytes} {k : Nat} (h0 : 0 < k) (h : k < l.length) : bin (l.take (k + 1)) = 256 * bin (l.take k) + ((l.getD k 0).toNat : Int) := by
  rw [take_snoc (d := 0) h, bin_snoc (by intro e; have := congrArg List.length e; rw [List.length_take, List.length_nil] at this; omega)]
theorem cmpO_ss {a b : Option Int} (h : a.isSome = true) (h2 : b.isSome = true) : cmpO a b = cmpI (a.getD 0) (b.getD 0) := by cases a <;> cases b <;> first | cases h; done | cases h2; done | rfl
theorem cmpO_sn {a b : Option Int} (h : a.isSome = true) (h2 : b.isSome = false) : cmpO a b = 1 := by cases a <;> cases b <;> first | cases h; done | cases h2; done | rfl
theorem cmpO_ns {a b : Option Int} (h : a.isSome = false) (h2 : b.isSome = true) : cmpO a b = -1 := by cases a <;> cases b <;> first | cases h; done | cases h2; done | rfl
theorem cmpO_nn {a b : Option Int} (h : a.isSome = false) (h2 : b.isSome = false) : cmpO a b = 0 := by cases a <;> cases b <;> first | cases h; done | cases h2; done | rfl
theorem getD_pad {l : Bytes} {z k : Nat} (h : k < l.length) : (l ++ List.replicate z (0 : UInt8)).getD k 0 = l.getD k 0 := by
  rw [List.getD_eq_getElem?_getD, List.getElem?_append_left h, ← List.getD_eq_getElem?_getD]
theorem digP {c : UInt8} (h : (decide (c < 48) || decide ((57 : UInt8) < c)) = false) : 48 ≤ c.toNat ∧ c.toNat ≤ 57 ∧ ((c - 48).toNat : Int) = (c.toNat : Int) - 48 := by
  simp only [Bool.or_eq_false_iff, decide_eq_false_iff_not, UInt8.lt_iff_toNat_lt, UInt8.reduceToNat] at h
  exact ⟨by omega, by omega, sub48 (by omega)⟩
theorem digN {c : UInt8} (h : (decide (c < 48) || decide ((57 : UInt8) < c)) = true) : ¬ (48 ≤ c.toNat ∧ c.toNat ≤ 57) := by
  simp only [Bool.or_eq_true, decide_eq_true_eq, UInt8.lt_iff_toNat_lt, UInt8.reduceToNat] at h
  omega
theorem num_stepP {l : Bytes} {z k : Nat} {n : Int} (hk : k < l.length) (h1 : 48 ≤ ((l ++ List.replicate z (0 : UInt8)).getD k 0).toNat) (h2 : ((l ++ List.replicate z (0 : UInt8)).getD k 0).toNat ≤ 57) : num (l.drop (k + 1)) (10 * n + (((l ++ List.replicate z (0 : UInt8)).getD k 0 - 48).toNat : Int)) = num (l.drop k) n := by
  rw [getD_pad hk] at *
  rw [sub48 h1, num_step hk h1 h2]
theorem num_badP {l : Bytes} {z k : Nat} {n m : Int} (h0 : num (l.drop k) n = num l m) (hk : k < l.length) (h : ¬ (48 ≤ ((l ++ List.replicate z (0 : UInt8)).getD k 0).toNat ∧ ((l ++ List.replicate z (0 : UInt8)).getD k 0).toNat ≤ 57)) : num l m = none := by
  rw [getD_pad hk] at h
  rw [← h0, num_bad hk h]
theorem num_endP {l : Bytes} {k : Nat} {n m : Int} (h0 : num (l.drop k) n = num l m) (hk : l.length ≤ k) : num l m = some n := by rw [← h0, num_end hk]
theorem pow_stepP {n : Int} {k : Nat} {c : UInt8} (h0 : 0 ≤ n) (h : n < 10 ^ k) (h1 : 48 ≤ c.toNat) (h2 : c.toNat ≤ 57) : 0 ≤ 10 * n + ((c - 48).toNat : Int) ∧ 10 * n + ((c - 48).toNat : Int) < 10 ^ (k + 1) := by
  rw [sub48 h1]; exact pow_step h0 h h1 h2
theorem bin_stepP {l : Bytes} {z k : Nat} (hk : k < l.length - 1) (hl : 0 < l.length) {n : Int} (h : n = bin (l.take (k + 1))) : n * 2 ^ 8 + (((sub l 1 l.length ++ List.replicate z (0 : UInt8)).getD k 0).toNat : Int) = bin (l.take (k + 1 + 1)) := by
  have e : (sub l 1 l.length ++ List.replicate z (0 : UInt8)).getD k 0 = l.getD (k + 1) 0 := by
    rw [getD_pad (by rw [sub_len _ _ _ (Nat.le_refl _)]; omega)]
    unfold sub
    rw [List.take_length, List.getD_eq_getElem?_getD, List.getElem?_drop, List.getD_eq_getElem?_getD, Nat.add_comm 1 k]
  rw [e, bin_step (by omega) (by omega), h]
  omega
theorem pow_or {k : Nat} (h : k ≤ 18) : (10 : Int) ^ k ≤ 1000000000000000000 ∧ (k = 18 ∨ (10 : Int) ^ k ≤ 100000000000000000) := by
  refine ⟨pow_le h, ?_⟩
  by_cases e : k = 18
  · exact .inl e
  · have : (10 : Nat) ^ k ≤ 10 ^ 17 := Nat.pow_le_pow_right (by decide) (by omega)
    have h2 : ((10 ^ k : Nat) : Int) ≤ ((10 ^ 17 : Nat) : Int) := by exact_mod_cast this
    exact .inr (by simpa using h2)
theorem bin_or {s : Bytes} {k : Nat} (h0 : 0 < s.length) (h8 : s.length ≤ 8) : s.length - 1 ≤ k ∨ (-36028797018963968 ≤ bin (s.take (k + 1)) ∧ bin (s.take (k + 1)) < 36028797018963968) := by
  by_cases h : s.length - 1 ≤ k
  · exact .inl h
  · exact .inr (bin_small (by rw [List.length_take]; omega) (by rw [List.length_take]; omega))
theorem bin_first {s : Bytes} (h : 0 < s.length) : int8 (s.getD 0 0) = bin (s.take (0 + 1)) := by
  cases s with
  | nil => simp at h
  | cons c t => rfl
theorem sub_snoc {s : Bytes} {j i : Nat} (hj : j ≤ i) (hi : i < s.length) : sub s j (i + 1) = sub s j i ++ [s.getD i 0] := by
  unfold sub
  rw [take_snoc (d := 0) hi, List.drop_append_of_le_length (by rw [List.length_take]; omega)]
theorem sub_none (s : Bytes) (i : Nat) : sub s i i = [] := by unfold sub; exact List.drop_of_length_le (by rw [List.length_take]; omega)
theorem cmpL_step {l : List SortField} {k : Nat} {a b : Bytes} (hk : k < l.length) : cmpL (l.drop k) a b = if cmp1 (l.getD k default) a b ≠ 0 then cmp1 (l.getD k default) a b else cmpL (l.drop (k + 1)) a b := by
  rw [drop_cons (d := default) hk, cmpL]
theorem cmpL_go {l : List SortField} {k : Nat} {a b : Bytes} (hk : k < l.length) (h : cmpL (l.drop k) a b = cmpL l a b) (h0 : cmp1 (l.getD k default) a b = 0) : cmpL (l.drop (k + 1)) a b = cmpL l a b := by
  rw [← h, cmpL_step hk, if_neg (by omega)]
theorem cmpL_hit {l : List SortField} {k : Nat} {a b : Bytes} (hk : k < l.length) (h : cmpL (l.drop k) a b = cmpL l a b) (h0 : cmp1 (l.getD k default) a b ≠ 0) : cmp1 (l.getD k default) a b = cmpL l a b := by
  rw [← h, cmpL_step hk, if_pos h0]
theorem cmpL_end {l : List SortField} {k : Nat} {a b : Bytes} (hk : l.length ≤ k) (h : cmpL (l.drop k) a b = cmpL l a b) : 0 = cmpL l a b := by
  rw [← h, List.drop_of_length_le hk]; rfl
section
variable {f : SortField} {a b : Bytes}
theorem cmpF_bd (f : SortField) (a b : Bytes) : -1 ≤ cmpF f a b ∧ cmpF f a b ≤ 1 := by have := cmpF_tri f a b; unfold Tri at this; omega
theorem cmpL_bd (l : List SortField) (a b : Bytes) : -1 ≤ cmpL l a b ∧ cmpL l a b ≤ 1 := by have := cmpL_tri l a b; unfold Tri at this; omega
theorem cmpI_bd (x y : Int) : -1 ≤ cmpI x y ∧ cmpI x y ≤ 1 := by have := cmpI_tri x y; unfold Tri at this; omega
theorem cf_ss (hk : f.Kind = 1) (h : (dec (fld a f)).isSome = true) (h2 : (dec (fld b f)).isSome = true) : cmpI ((dec (fld a f)).getD 0) ((dec (fld b f)).getD 0) = cmpF f a b := by unfold cmpF; rw [if_pos hk, cmpO_ss h h2]
theorem cf_sn (hk : f.Kind = 1) (h : (dec (fld a f)).isSome = true) (h2 : (dec (fld b f)).isSome = false) : 1 = cmpF f a b := by unfold cmpF; rw [if_pos hk, cmpO_sn h h2]
theorem cf_ns (hk : f.Kind = 1) (h : (dec (fld a f)).isSome = false) (h2 : (dec (fld b f)).isSome = true) : -1 = cmpF f a b := by unfold cmpF; rw [if_pos hk, cmpO_ns h h2]
theorem cf_nn (hk : f.Kind = 1) (h : (dec (fld a f)).isSome = false) (h2 : (dec (fld b f)).isSome = false) : 0 = cmpF f a b := by unfold cmpF; rw [if_pos hk, cmpO_nn h h2]
theorem cf_2 (hk : ¬ f.Kind = 1) (hk2 : f.Kind = 2) : cmpI (bin (fld a f)) (bin (fld b f)) = cmpF f a b := by unfold cmpF; rw [if_neg hk, if_pos hk2]
theorem cf_0 (hk : ¬ f.Kind = 1) (hk2 : ¬ f.Kind = 2) : cmpS (fld a f) (fld b f) = cmpF f a b := by unfold cmpF; rw [if_neg hk, if_neg hk2]
theorem cf_lt (hk : ¬ f.Kind = 1) (hk2 : ¬ f.Kind = 2) (h : Op.bytesLess (fld a f) (fld b f) = true) : -1 = cmpF f a b := by rw [← cf_0 hk hk2]; exact (if_pos h).symm
theorem cf_gt (hk : ¬ f.Kind = 1) (hk2 : ¬ f.Kind = 2) (h : Op.bytesLess (fld a f) (fld b f) = false) (h2 : fld a f ≠ fld b f) : 1 = cmpF f a b := by rw [← cf_0 hk hk2]; exact ((if_neg (by rw [h]; decide)).trans (if_neg h2)).symm
theorem cf_eq (hk : ¬ f.Kind = 1) (hk2 : ¬ f.Kind = 2) (h : Op.bytesLess (fld a f) (fld b f) = false) (h2 : fld a f = fld b f) : 0 = cmpF f a b := by rw [← cf_0 hk hk2]; exact ((if_neg (by rw [h]; decide)).trans (if_pos h2)).symm
variable {n m : Int} {o q : Bool}
end
def cmpV (l : List SortField) (a b : Bytes) : Int := if valid l = true then cmpL l a b else 0
theorem most_look (k : Int) : (lk [((0 : Int), vI 200), (1, vI 18), (2, vI 8)] k).getD (vI 0) = vI (most k) := by
  unfold most
  by_cases h0 : k = 0
  · subst h0; rfl
  · rw [if_neg h0]
    by_cases h1 : k = 1
    · subst h1; rfl
    · rw [if_neg h1]
      by_cases h2 : k = 2
      · subst h2; rfl
      · rw [if_neg h2]
        unfold lk; rw [if_neg h0]; unfold lk; rw [if_neg h1]; unfold lk; rw [if_neg h2]; rfl
theorem fok_bad {f : SortField} (h : ¬ (0 ≤ f.At ∧ f.At ≤ 1000 ∧ 1 ≤ f.Length ∧ f.Length ≤ most f.Kind ∧ f.At + f.Length ≤ 1000)) : fok f = false := by
  rw [Bool.eq_false_iff]; intro h2; exact h (fok_facts h2)
theorem fok_good {f : SortField} (h : 0 ≤ f.At ∧ f.At ≤ 1000 ∧ 1 ≤ f.Length ∧ f.Length ≤ most f.Kind ∧ f.At + f.Length ≤ 1000) : fok f = true := by
  unfold fok; simp only [Bool.and_eq_true, decide_eq_true_eq]; omega
theorem getD_mem {α : Type} {l : List α} {k : Nat} {d : α} (hk : k < l.length) : l.getD k d ∈ l := by
  rw [List.getD_eq_getElem?_getD, List.getElem?_eq_getElem hk]; exact List.getElem_mem hk
theorem valid_bad {l : List SortField} {k : Nat} (hk : k < l.length) (h : fok (l.getD k default) = false) : valid l = false := by
  rw [Bool.eq_false_iff]; intro h2
  rw [(valid_facts h2).2 k hk] at h; cases h
theorem valid_end {l : List SortField} (h : ∀ i, i < l.length → fok (l.getD i default) = true) : valid l = decide ((l.length : Int) ≤ 8) := by
  unfold valid
  rw [show l.all fok = true from List.all_eq_true.2 fun x hx => by
    obtain ⟨i, hi, rfl⟩ := List.mem_iff_getElem.1 hx
    have := h i hi
    rwa [List.getD_eq_getElem?_getD, List.getElem?_eq_getElem hi] at this, Bool.true_and]
end R44
end Go.Proofs.YtmacopacmpgieaaGreatDoor

namespace Go.Proofs.YtmacopacmpgieaaGreatDoor
namespace R44
open Go.Lib
def vN (s : List UInt8) : Nat := s.foldl (fun n c => 10 * n + (c.toNat - 48)) 0
def isD (c : UInt8) : Bool := decide (48 ≤ c.toNat) && decide (c.toNat ≤ 57)
def numV (s : List UInt8) : Option Nat := if (s.length ≤ 4 ∧ s.all isD = true) ∧ decDigits (vN s) = s then some (vN s) else none
theorem dec_small {n : Nat} (h : n < 10) : decDigits n = [UInt8.ofNat (48 + n)] := by rw [decDigits, dif_pos h]
theorem dec_big {n : Nat} (h : ¬ n < 10) : decDigits n = decDigits (n / 10) ++ [UInt8.ofNat (48 + n % 10)] := by rw [decDigits, dif_neg h]
theorem dec_len_aux : ∀ (k n : Nat), n < 10 ^ (k + 1) → (decDigits n).length ≤ k + 1
  | 0, n, h => by rw [dec_small (by simpa using h)]; exact Nat.le_refl _
  | k + 1, n, h => by
    by_cases h2 : n < 10
    · rw [dec_small h2]; simp
    · rw [dec_big h2, List.length_append]
      have := dec_len_aux k (n / 10) (by rw [Nat.pow_succ] at h; omega)
      simp; omega
theorem dec_len4 {n : Nat} (h : n ≤ 9999) : (decDigits n).length ≤ 4 := dec_len_aux 3 n (by omega)
theorem dec_len19 {n : Nat} (h : n ≤ 9223372036854775807) : (decDigits n).length ≤ 19 := dec_len_aux 18 _ (by omega)
def AtoiJ (s : List UInt8) (n : Int) (er : Bool) : Prop := (er = true → atoiAll s = .ok n) ∧ (er = false → ∀ v, atoiAll s ≠ .ok v) ∧ -9223372036854775808 ≤ n ∧ n ≤ 9223372036854775807
def SmallJ (s : List UInt8) (n : Int) (ok : Bool) : Prop := (ok = true → numV s = some n.toNat ∧ 0 ≤ n ∧ n ≤ 9999) ∧ (ok = false → numV s = none)
def restD (m : Nat) : List UInt8 := if m = 0 then [] else decDigits m
def DigJ (n m : Nat) (s : List UInt8) : Prop := (s = [] ∧ m = n) ∨ (s ≠ [] ∧ decDigits n = restD m ++ s)
theorem DigJ.start (n : Nat) : DigJ n n [] := .inl ⟨rfl, rfl⟩
theorem dig_split {m : Nat} : decDigits m = restD (m / 10) ++ [UInt8.ofNat (48 + m % 10)] := by
  by_cases h : m < 10
  · rw [dec_small h]; unfold restD; rw [if_pos (by omega)]; simp; congr 2; omega
  · rw [dec_big h]; unfold restD; rw [if_neg (by omega)]
theorem DigJ.step {n m : Nat} {s : List UInt8} (h : DigJ n m s) (hc : 0 < m ∨ s = []) : DigJ n (m / 10) ([UInt8.ofNat (48 + m % 10)] ++ s) := by
  refine .inr ⟨by simp, ?_⟩
  rw [← List.append_assoc, ← dig_split]
  rcases h with ⟨h1, h2⟩ | ⟨h1, h2⟩
  · rw [h1, h2, List.append_nil]
  · rw [h2]
    rcases hc with hc | hc
    · unfold restD; rw [if_neg (by omega)]
    · exact absurd hc h1
theorem DigJ.done {n m : Nat} {s : List UInt8} (h : DigJ n m s) (h0 : m = 0) (hs : s ≠ []) : s = decDigits n := by
  rcases h with ⟨h1, _⟩ | ⟨_, h2⟩
  · exact absurd h1 hs
  · rw [h2, h0]; rfl
end R44
end Go.Proofs.YtmacopacmpgieaaGreatDoor

namespace Go.Proofs.YtmacopacmpgieaaGreatDoor
open Go.GV
namespace R44
def isUp (c : UInt8) : Bool := decide ((65 : UInt8) ≤ c) && decide (c ≤ (90 : UInt8))
def isDg (c : UInt8) : Bool := decide ((48 : UInt8) ≤ c) && decide (c ≤ (57 : UInt8))
def isPl (c : UInt8) : Bool := isUp c || isDg c
def isSt (c : UInt8) : Bool := isUp c || decide (c = (42 : UInt8))
def isPs (c : UInt8) : Bool := isPl c || decide (c = (42 : UInt8))
def qualV (f g : UInt8 → Bool) (s : Bytes) : Bool := ((decide (1 ≤ s.length) && decide (s.length ≤ 8)) && f (s.getD 0 0)) && (s.drop 1).all g
section
variable {f g : UInt8 → Bool} {s : Bytes} {k : Nat}
theorem qual_0 (h : (((decide (((s.length : Nat) : Int) < 1)) || (decide ((8 : Int) < ((s.length : Nat) : Int)))) || (!(f (s.getD 0 0)))) = true) : false = qualV f g s := by
  have : ((decide (1 ≤ s.length) && decide (s.length ≤ 8)) && f (s.getD 0 0)) = false := by
    cases hf : f (s.getD 0 0) with
    | false => simp
    | true =>
      rw [hf] at h
      simp only [Bool.not_true, Bool.or_false, Bool.or_eq_true, decide_eq_true_eq] at h
      rw [Bool.and_true, Bool.and_eq_false_iff, decide_eq_false_iff_not, decide_eq_false_iff_not]
      omega
  unfold qualV; rw [this]; rfl
theorem qual_step (h : ∀ i, 1 ≤ i → i < k → g (s.getD i 0) = true) (hk : g (s.getD k 0) = true) : ∀ i, 1 ≤ i → i < k + 1 → g (s.getD i 0) = true := fun i h1 h2 => by
  by_cases e : i = k
  · subst e; exact hk
  · exact h i h1 (by omega)
theorem drop_at1 (h1 : 1 ≤ k) (h2 : k < s.length) : s.getD k 0 ∈ s.drop 1 := by
  rw [List.getD_eq_getElem?_getD, List.getElem?_eq_getElem h2, List.mem_iff_getElem]
  exact ⟨k - 1, by rw [List.length_drop]; omega, by rw [List.getElem_drop]; simp only [Option.getD_some]; congr 1; omega⟩
theorem qual_bad (h1 : 1 ≤ k) (h2 : k < s.length) (h : g (s.getD k 0) = false) : false = qualV f g s := by
  have : (s.drop 1).all g = false := by
    cases ha : (s.drop 1).all g with
    | false => rfl
    | true => have := List.all_eq_true.1 ha _ (drop_at1 h1 h2); rw [h] at this; cases this
  unfold qualV; rw [this, Bool.and_false]
theorem qual_end (h : (((decide (((s.length : Nat) : Int) < 1)) || (decide ((8 : Int) < ((s.length : Nat) : Int)))) || (!(f (s.getD 0 0)))) = false) (ha : ∀ i, 1 ≤ i → i < s.length → g (s.getD i 0) = true) : true = qualV f g s := by
  rw [Bool.or_eq_false_iff, Bool.or_eq_false_iff, decide_eq_false_iff_not, decide_eq_false_iff_not] at h
  have hf : f (s.getD 0 0) = true := by have := h.2; simpa using this
  have : (s.drop 1).all g = true := List.all_eq_true.2 fun x hx => by
    obtain ⟨i, hi, rfl⟩ := List.mem_iff_getElem.1 hx
    rw [List.length_drop] at hi
    have := ha (1 + i) (by omega) (by omega)
    rw [List.getD_eq_getElem?_getD, List.getElem?_eq_getElem (by omega)] at this
    rw [List.getElem_drop]; exact this
  unfold qualV
  rw [this, hf, decide_eq_true (by omega), decide_eq_true (by omega)]; rfl
end
def nameV (p : Bytes → Bool) (s : Bytes) : Bool := (decide (1 ≤ s.length) && decide (s.length ≤ 31)) && (splitC 46 s).all p
theorem name_len {P : Bytes → Bool} {s : Bytes} (h : nameV P s = true) : 1 ≤ s.length ∧ s.length ≤ 31 := by
  unfold nameV at h
  simp only [Bool.and_eq_true, decide_eq_true_eq] at h
  exact h.1
section
variable {p : Bytes → Bool} {s : Bytes} {k : Nat}
theorem name_0 (h : ((decide (((s.length : Nat) : Int) < 1)) || (decide ((31 : Int) < ((s.length : Nat) : Int)))) = true) : false = nameV p s := by
  have : (decide (1 ≤ s.length) && decide (s.length ≤ 31)) = false := by
    simp only [Bool.or_eq_true, decide_eq_true_eq] at h
    rw [Bool.and_eq_false_iff, decide_eq_false_iff_not, decide_eq_false_iff_not]; omega
  unfold nameV; rw [this]; rfl
theorem name_bad (hk : k < (splitC 46 s).length) (h : p ((splitC 46 s).getD k []) = false) : false = nameV p s := by
  have : (splitC 46 s).all p = false := by
    cases ha : (splitC 46 s).all p with
    | false => rfl
    | true => have := List.all_eq_true.1 ha _ (getD_mem (d := []) hk); rw [h] at this; cases this
  unfold nameV; rw [this, Bool.and_false]
theorem name_end (h : ((decide (((s.length : Nat) : Int) < 1)) || (decide ((31 : Int) < ((s.length : Nat) : Int)))) = false) (ha : ∀ i, i < (splitC 46 s).length → p ((splitC 46 s).getD i []) = true) : true = nameV p s := by
  rw [Bool.or_eq_false_iff, decide_eq_false_iff_not, decide_eq_false_iff_not] at h
  have : (splitC 46 s).all p = true := List.all_eq_true.2 fun x hx => by
    obtain ⟨i, hi, rfl⟩ := List.mem_iff_getElem.1 hx
    have := ha i hi
    rwa [List.getD_eq_getElem?_getD, List.getElem?_eq_getElem hi] at this
  unfold nameV
  rw [this, decide_eq_true (by omega), decide_eq_true (by omega)]; rfl
theorem all_step (h : ∀ i, i < k → p ((splitC 46 s).getD i []) = true) (hk : p ((splitC 46 s).getD k []) = true) : ∀ i, i < k + 1 → p ((splitC 46 s).getD i []) = true := fun i h2 => by
  by_cases e : i = k
  · subst e; exact hk
  · exact h i (by omega)
end
def patV (q : Bytes) : Bool := decide (q = [42, 42]) || (qualV isSt isPs q && !(Lib.contains q [42, 42]))
def groupV (s : Bytes) : Bool := (decide (((s.length : Nat) : Int) ≤ 22) && nameV (qualV isUp isPl) s) && true
def numG (q : Bytes) : Nat := if (q.length = 8 ∧ q.getD 0 0 = 71 ∧ q.drop 5 = [86, 48, 48]) ∧ ((q.drop 1).take 4).all isD = true then vN ((q.drop 1).take 4) else 0
end R44
end Go.Proofs.YtmacopacmpgieaaGreatDoor

namespace Go.Proofs.YtmacopacmpgieaaGreatDoor
open Go.GV Go.RowKit Go.Op
def TabP (S : List Nat) (w : World) : Prop := 0 ∉ S ∧ 0 < w.heap.size ∧ ∃ t f, w.heap[0]? = some (.cells (Lib.pow10Tab.map fun z => Value.int .u64 z).toArray t f)
theorem TabP.on {S Sc : List Nat} {w0 w : World} {Lc Lr : List Ent} (h : TabP S w0) (hS : St S w0 w (Lc ++ Lr)) (hSc : ∀ b ∈ Sc, ∃ e ∈ Lc, e.own = some b) : TabP Sc w := by
  obtain ⟨h1, h2, t, f, h3⟩ := h
  refine ⟨fun hc => ?_, Nat.lt_of_lt_of_le h2 hS.fr.size, t, f, (hS.fr.block _ h2 h1).trans h3⟩
  obtain ⟨e, he, ho⟩ := hSc _ hc
  rcases hS.own e (List.mem_append_left _ he) _ ho with h4 | h4
  · exact h1 h4
  · omega
structure Tab (S : List Nat) (w : World) : Prop where
  pow : TabP S w
  mx : ∃ m, RO S w (some ⟨1, 0, none⟩) [vI m]
theorem Tab.on {S Sc : List Nat} {w0 w : World} {Lc Lr : List Ent} (h : Tab S w0) (hS : St S w0 w (Lc ++ Lr)) (hSc : ∀ b ∈ Sc, ∃ e ∈ Lc, e.own = some b) : Tab Sc w :=
  ⟨h.pow.on hS hSc, h.mx.imp fun _ k => k.on hS hSc⟩
theorem Tab.again {S : List Nat} {w0 w : World} {L : List Ent} (h : Tab S w0) (hS : St S w0 w L) : Tab (Lown L) w :=
  h.on (Lc := L) (Lr := []) (by rw [List.append_nil]; exact hS) lown_mem
theorem cell_of {S : List Nat} {w : World} {b : Nat} {v : Value} (h : RO S w (some ⟨b, 0, none⟩) [v]) : w.cell? ⟨b, 0, none⟩ = some v := h.cell (Fr.refl S w) (j := 0) rfl
theorem itoa_ok (n : Int) (w : World) (hT : Tab [] w) (q0 : 0 ≤ n) (q1 : n ≤ 9223372036854775807) : Calls Tryz.prog 19 #[vI n] w (Gives [] w fun v L => v = vS (Lib.decDigits n.toNat) ∧ L = []) := by
  obtain ⟨h1, h2, t, f, h3⟩ := hT.pow
  have htab : Lib.TabIs Tryz.prog w "internal/strconv.uint64pow10" .u64 Lib.pow10Tab := by
    have hg : Tryz.prog.globalNamed "internal/strconv.uint64pow10" = some 0 := by kernel_rfl
    unfold Lib.TabIs World.var?
    rw [hg]
    simp only [Option.bind_some, h3]
  refine (Tryz.strconv_Itoa n (by omega) q1 w htab).mono ?_
  rintro e w' ⟨rfl, k, os, rfl⟩
  refine ⟨_, _, rfl, ⟨?_, rfl⟩, St.nil ?_⟩
  · rw [Lib.itoa, if_neg (by omega)]
  · exact Fr.of_below (Lib.below_grow _ _ (Nat.le_refl _) k os)
theorem split_ok (s : Bytes) (w : World) (hT : Tab [] w) (q0 : s.length ≤ 1000000) : Calls Tryz.prog 22 #[vS s, vS [46]] w (Gives [] w fun v L => ∃ (A2 : Option Addr) (c2 : Nat), v = vL A2 (R44.splitC 46 s).length c2 ∧ L = [Ent.row (.slice A2 (R44.splitC 46 s).length c2) 9 1 (R44.splitC 46 s).length ((R44.splitC 46 s).map vS)]) := by
  obtain ⟨m, hm⟩ := hT.mx
  refine (Tryz.strings_Split ⟨s.toArray⟩ ⟨#[46]⟩ m w (by show s.toArray.size < _; simp; omega) (cell_of hm) (by decide)).mono ?_
  rintro e w' ⟨rfl, rfl⟩
  have hl := R44.split_lib ⟨s.toArray⟩ 46
  have hlen := congrArg List.length hl
  rw [List.length_map, Lib.splitB_all _ (by decide) 0 _ _ rfl] at hlen
  have hsz : s.length = (⟨s.toArray⟩ : ByteArray).size := by show _ = s.toArray.size; simp
  have hc := Lib.countB_le ⟨#[46]⟩ (by decide) _ ⟨s.toArray⟩ (Nat.le_refl _)
  have hcells : (Lib.splitB ⟨#[46]⟩ 0 (Lib.countB ⟨s.toArray⟩ ⟨#[46]⟩) ⟨s.toArray⟩).map Value.string = (R44.splitC 46 s).map vS := by
    rw [show R44.splitC 46 s = R44.splitC 46 (⟨s.toArray⟩ : ByteArray).data.toList from rfl, ← hl, List.map_map]
    exact List.map_congr_left fun x _ => rfl
  refine ⟨_, _, rfl, ⟨some ⟨w.heap.size, 0, none⟩, (R44.splitC 46 s).length, ?_, rfl⟩, ?_⟩
  · rw [hlen]
  · refine (St.nil (Fr.refl [] w)).alloc _ _ rfl ⟨by simp, .inr ⟨w.heap.size, (R44.splitC 46 s).length, ((R44.splitC 46 s).map vS).toArray, rfl, ?_, Nat.le_refl _, ?_, by simp, ?_⟩⟩
    · rw [hcells]
    · rw [← hlen]; simp only [maxLen]; omega
    · exact List.take_of_length_le (by simp)
theorem contains_ok (s : Bytes) (w : World) (hT : Tab [] w) (q0 : s.length ≤ 1000000) : Calls Tryz.prog 54 #[vS s, vS [42, 42]] w (Gives [] w fun v L => v = vB (Lib.contains s [42, 42]) ∧ L = []) := by
  obtain ⟨m, hm⟩ := hT.mx
  refine (Tryz.strings_Contains ⟨s.toArray⟩ ⟨#[42, 42]⟩ m w (by show s.toArray.size < _; simp; omega) (cell_of hm)).mono ?_
  rintro e w' ⟨rfl, rfl⟩
  exact ⟨_, _, rfl, ⟨rfl, rfl⟩, St.nil (Fr.refl _ _)⟩
end Go.Proofs.YtmacopacmpgieaaGreatDoor

namespace Go.GV
open Go.RowKit
section
variable {P : Program} {t : TypeId}
theorem open_cap {e : TypeId} (ht : P.underlying t = some (.slice e)) : OpenAt P t fun _ cs => ∃ (A : Option Addr) (l c : Nat), cs = [.slice A l c] ∧ l ≤ c := by
  intro H enc w fuel cs x hx
  rcases Deep.open_slice ht hx with ⟨rfl, _⟩ | ⟨a, len, cap, m, n, D, Pl, rfl, _, hlc, _⟩
  · exact ⟨none, 0, 0, rfl, Nat.le_refl _⟩
  · exact ⟨some a, len, cap, rfl, hlc⟩
theorem open_slW2 {α : Type} [Inhabited α] {e : TypeId} {N : Nat} {f : α → List Value} {B : World → α → Prop} (ht : P.underlying t = some (.slice e)) (hc : P.cellsOf e = N) (hN : ∀ a, (f a).length = N) (he : OpenAt P e fun w cs => ∃ a, cs = f a ∧ B w a) :
    OpenAt P t fun w cs => ∃ (A : Option Addr) (c : Nat) (xs : List α), cs = [.slice A xs.length c] ∧ RO [] w A (xs.flatMap f) ∧ (xs.length ≤ c ∧ xs.length ≤ 9223372036854775807) ∧ ∀ a ∈ xs, B w a := by
  intro H enc w fuel cs x hx
  obtain ⟨A, c, xs, rfl, hR, hl, hB⟩ := open_slW ht hc hN he H enc w fuel cs x hx
  obtain ⟨A2, l2, c2, e2, hle⟩ := open_cap ht H enc w fuel _ x hx
  cases e2
  exact ⟨A, c, xs, rfl, hR, ⟨hle, hl⟩, hB⟩
theorem open_sl2 {α : Type} [Inhabited α] {e : TypeId} {N : Nat} {f : α → List Value} {B : α → Prop} (ht : P.underlying t = some (.slice e)) (hc : P.cellsOf e = N) (hN : ∀ a, (f a).length = N) (he : OpenAt P e fun _ cs => ∃ a, cs = f a ∧ B a) :
    OpenAt P t fun w cs => ∃ (A : Option Addr) (c : Nat) (xs : List α), cs = [.slice A xs.length c] ∧ RO [] w A (xs.flatMap f) ∧ (xs.length ≤ c ∧ xs.length ≤ 9223372036854775807) ∧ ∀ a ∈ xs, B a :=
  open_slW2 (B := fun _ => B) ht hc hN he
end
theorem ro_one {w : World} {b : Nat} {v : Value} (h : w.cell? ⟨b, 0, none⟩ = some v) (hb : b < w.heap.size) : RO [] w (some ⟨b, 0, none⟩) [v] := fun j u hj => by
  cases j with
  | zero => cases hj; exact ⟨_, rfl, hb, List.not_mem_nil, h⟩
  | succ j => cases hj
end Go.GV
namespace Go
theorem returnsInHanded_of_change_and_shaped {H : Type} {enc : TypeId × Value → H} {a : Assume} {C : Checked} {os : Os} {f : FuncId} {fn : Func} {s : ChangeSpec} {conds : List PathCond} {apart fresh handsOn again : Bool} {X : World → Array Value → Prop}
    (hX : ∀ (w w' : World) (args : Array Value), w.heap = w'.heap → X w args → X w' args)
    (own : ownKnob C.prog.godebug = none) (started : os.Started) (noInit : C.prog.inits.idxOf? f = none) (hfn : C.prog.funcs[f]? = some fn)
    (witness : ∃ (w : World) (tape : Tape) (i : Input), w.os = os ∧ (w.forCall tape i).Shaped C.prog ∧ i.vars = [] ∧ Input.okWide C.prog (w.forCall tape i) .any w.heap.size f i ∧
      ((s.pre enc C.prog fn conds apart (w.forCall tape i).memory i.args ∧ X (w.forCall tape i).memory i.args) ∧ sizedMet enc C.prog fn (OpenSpec.ofChange s) apart (w.forCall tape i).memory i.args) ∧ a.holds C.prog (lone (Frame.enter C.prog f i.args .normal) [] (w.forCall tape i)))
    (contract : ∀ (W : World) (base : Nat) (args : Array Value) (ds gs : List (DataW H)) (before : List MemPlace),
      (∀ (j : Nat) t v, fn.params[j]? = some t → args[j]? = some v → Value.okWide C.prog W .any base t v) →
      DataW.Whole enc C.prog fn.params.toList s.vars apart W args.toList ds gs before →
      X W args → W.ShapedOpen C.prog →
      Calls C.prog f args W fun e W' => ∃ v, e = .returned v ∧ s.post enc C.prog fn apart fresh handsOn again W args v W') :
    ReturnsInHanded a C os f .any (fun w args => (s.pre enc C.prog fn conds apart w args ∧ X w args) ∧ sizedMet enc C.prog fn (OpenSpec.ofChange s) apart w args) (s.post enc C.prog fn apart fresh handsOn again) := by
  refine returnsInHanded_of_calls own started noInit witness ?_
  intro w tape i _ hsh _ hok hpre _
  obtain ⟨_, _, _, fn', hfn', _, _, _, _, hval⟩ := hok
  obtain rfl : fn' = fn := Option.some.inj (hfn'.symm.trans hfn)
  obtain ⟨⟨⟨ds, gs, before, hw, _⟩, hx⟩, _⟩ := hpre
  refine (contract (w.forCall tape i) w.heap.size i.args ds gs before hval (DataW.Whole.of_heap (w' := w.forCall tape i) (by rfl) hw) (hX _ _ _ (by rfl) hx) hsh).mono fun e W' ⟨v, he, hp⟩ => ?_
  subst he
  exact ChangeSpec.post_blind hp
end Go
namespace Go.Proofs.YtmacopacmpgieaaGreatDoor
open Go.GV Go.RowKit
theorem own : ownKnob Tryz.prog.godebug = none := by kernel_rfl
theorem gN1 : Tryz.prog.globalNamed Rows.topSortRow.laid[2].1 = some 0 := by kernel_rfl
theorem gT1 : (Tryz.prog.globals[0]?).map (·.type) = some 141 := by kernel_rfl
theorem gMax {w : World} (h : w.ShapedOpen Tryz.prog) : ∃ m, w.cell? ⟨1, 0, none⟩ = some (.int .i64 m) :=
  Go.Proofs.cell_of_shapedOpen_int (zero := #[.int .i64 0]) (t := 3) h (of_decide_eq_true (by kernel_rfl)) (by kernel_rfl) rfl (by kernel_rfl) (by kernel_rfl) Tryz.underlying3
theorem dTab : (Rows.laid_internal_strconv_uint64pow10 : DataW Unit) = Lib.tabData .u64 Lib.pow10Tab := by kernel_rfl
theorem var_cells {W : World} {g : Nat} {cs : Array Value} {l : List Value} {nm : String} (hg : Tryz.prog.globalNamed nm = some g) (hv : W.var? Tryz.prog nm = some cs) (hc : cs.toList = l) : g < W.heap.size ∧ ∃ t f, W.heap[g]? = some (.cells l.toArray t f) := by
  unfold World.var? at hv
  rw [hg] at hv
  simp only [Option.bind_some] at hv
  cases ho : W.heap[g]? with
  | none => rw [ho] at hv; cases hv
  | some o =>
    rw [ho] at hv
    cases o with
    | cells c t f =>
      have hv : some c = some cs := hv
      obtain rfl := Option.some.inj hv
      exact ⟨(Array.getElem?_eq_some_iff.1 ho).1, t, f, by rw [← hc]⟩
    | _ => cases hv
noncomputable abbrev start (os : Os) : World := World.laidAll Tryz.prog os Rows.topSortRow.laid
theorem door_met (os : Os) (args : Array Value) : laidMetH Tryz.prog Rows.topSortRow.laid ((start os).forCall (fun _ _ => 0) ⟨#[], args, []⟩).memory := by
  rw [MakeChecks.laidMetH_plain _ _ _ (by kernel_rfl)]
  exact laidMet_laidAll args (by kernel_rfl) (by kernel_rfl)
theorem start_os (os : Os) : (start os).os = os := World.laidAll_os _ _ _
theorem tab_of {W : World} (hs : W.ShapedOpen Tryz.prog) (h : laidMetH Tryz.prog Rows.topSortRow.laid W) : Tab [] W := by
  rw [MakeChecks.laidMetH_plain _ _ _ (by kernel_rfl)] at h
  obtain ⟨ps, ⟨g0, t0, cs0, f0, p0, q0, hg0, ht0, hv0, hd0, ⟨g1, t1, cs1, f1, p1, q1, hg1, ht1, hv1, hd1, ⟨g2, t2, cs2, f2, p2, q2, hg2, ht2, hv2, hd2, ⟨g3, t3, cs3, f3, p3, q3, hg3, ht3, hv3, hd3, ⟨g4, t4, cs4, f4, p4, q4, hg4, ht4, hv4, hd4, _, _⟩, _⟩, _⟩, _⟩, _⟩, _, _⟩ := h
  obtain rfl := Option.some.inj (gN1.symm.trans hg2)
  obtain rfl := Option.some.inj (gT1.symm.trans ht2)
  rw [dTab] at hd2
  have hc := Lib.cells_of_tab Tryz.underlying141 Tryz.underlying113 (by kernel_rfl) (by kernel_rfl) hd2
  obtain ⟨h1, k1, k2, k3⟩ := var_cells hg2 hv2 hc
  obtain ⟨m, hm⟩ := gMax hs
  have hz : 1 < W.heap.size := by
    unfold World.cell? at hm
    rcases Nat.lt_or_ge 1 W.heap.size with h | h
    · exact h
    · rw [Array.getElem?_eq_none h] at hm; simp at hm
  exact ⟨⟨List.not_mem_nil, h1, k1, k2, k3⟩, ⟨m, ro_one hm hz⟩⟩
def Rw.okW (w : World) (a : Rw) : Prop := RO [] w a.sA (a.s.map vS) ∧ (a.s.length ≤ a.sC ∧ a.s.length ≤ 9223372036854775807)
end Go.Proofs.YtmacopacmpgieaaGreatDoor

namespace Go.Proofs.YtmacopacmpgieaaGreatDoor
open Go.GV
set_option linter.unusedVariables false
set_option linter.unusedSimpArgs false
theorem ca0_ {p : Prop} (h : p := by first | exact R44.qual_0 (by assumption) | exact R44.qual_bad (k := k) (by omega) (by omega) (by assumption) | exact R44.qual_end (by assumption) (fun i h1 h2 => i1_2 i h1 (by omega))) : p := h
set_option maxRecDepth 20000 in
theorem f31_ok (c : UInt8) (w : World) : Calls Tryz.prog 31 #[vU8 c] w (Gives [] w fun v L => v = vB (R44.isUp c) ∧ L = []) := by
 refine calls_J [] 9 Tryz.func31 rfl Tryz.ntmps31 [(0, _)] rfl rfl (Give.nil w) ?_
 refine q_ (g_ (s_ av_ (z_ (n_ (q_ (g_ (s_ mv_ (js_ (vB (decide ((65 : UInt8) ≤ c))) (x_geq_u8 rfl rfl) (s_ mv_ ?_)))))))))
 refine and_ 2 (decide (c ≤ (90 : UInt8))) (fun g1 => ?_) ?_
 ·have g1r := g1
  have g1r := of_decide_eq_true g1r
  have g1ru := g1r
  try simp only [UInt8.lt_iff_toNat_lt, UInt8.le_iff_toNat_le, UInt8.reduceToNat, UInt32.lt_iff_toNat_lt, UInt32.le_iff_toNat_le, UInt32.reduceToNat, UInt64.lt_iff_toNat_lt, UInt64.le_iff_toNat_le, UInt64.reduceToNat] at g1ru
  refine sg_ g1 mv_ (jg_ g1 (vB (decide (c ≤ (90 : UInt8)))) (x_leq_u8 rfl rfl) ?_)
  exact cr_
 refine s_ av_ (z_ (n_ (rt_ ?_)))
 exact p1 Tryz.results31 rfl ⟨(eB (by rfl)), rfl⟩
set_option maxRecDepth 20000 in
theorem f56_ok (c : UInt8) (w : World) : Calls Tryz.prog 56 #[vU8 c] w (Gives [] w fun v L => v = vB (R44.isDg c) ∧ L = []) := by
 refine calls_J [] 9 Tryz.func56 rfl Tryz.ntmps56 [(0, _)] rfl rfl (Give.nil w) ?_
 refine q_ (g_ (s_ av_ (z_ (n_ (q_ (g_ (s_ mv_ (js_ (vB (decide ((48 : UInt8) ≤ c))) (x_geq_u8 rfl rfl) (s_ mv_ ?_)))))))))
 refine and_ 2 (decide (c ≤ (57 : UInt8))) (fun g1 => ?_) ?_
 ·have g1r := g1
  have g1r := of_decide_eq_true g1r
  have g1ru := g1r
  try simp only [UInt8.lt_iff_toNat_lt, UInt8.le_iff_toNat_le, UInt8.reduceToNat, UInt32.lt_iff_toNat_lt, UInt32.le_iff_toNat_le, UInt32.reduceToNat, UInt64.lt_iff_toNat_lt, UInt64.le_iff_toNat_le, UInt64.reduceToNat] at g1ru
  refine sg_ g1 mv_ (jg_ g1 (vB (decide (c ≤ (57 : UInt8)))) (x_leq_u8 rfl rfl) ?_)
  exact cr_
 refine s_ av_ (z_ (n_ (rt_ ?_)))
 exact p1 Tryz.results56 rfl ⟨(eB (by rfl)), rfl⟩
set_option maxRecDepth 20000 in
theorem f32_ok (c : UInt8) (w : World) : Calls Tryz.prog 32 #[vU8 c] w (Gives [] w fun v L => v = vB (R44.isPl c) ∧ L = []) := by
 refine calls_J [] 9 Tryz.func32 rfl Tryz.ntmps32 [(0, _)] rfl rfl (Give.nil w) ?_
 refine q_ (g_ (s_ av_ (z_ (n_ (q_ (g_ (s_ mv_ (c0 (cl_ Ty.ca31) (fun w hS => f31_ok c w) (s_ mv_ ?_)))))))))
 refine or_ 2 (R44.isDg c) (fun g1 => ?_) ?_
 ·have g1r := g1
  refine sg_ g1 mv_ (c0g g1 (cl_ Ty.ca56) (fun w hS => f56_ok c w) ?_)
  exact cr_
 refine s_ av_ (z_ (n_ (rt_ ?_)))
 exact p1 Tryz.results32 rfl ⟨(eB (by rfl)), rfl⟩
set_option maxRecDepth 20000 in
theorem f51_ok (c : UInt8) (w : World) : Calls Tryz.prog 51 #[vU8 c] w (Gives [] w fun v L => v = vB (R44.isSt c) ∧ L = []) := by
 refine calls_J [] 9 Tryz.func51 rfl Tryz.ntmps51 [(0, _)] rfl rfl (Give.nil w) ?_
 refine q_ (g_ (s_ av_ (z_ (n_ (q_ (g_ (s_ mv_ (c0 (cl_ Ty.ca31) (fun w hS => f31_ok c w) (s_ mv_ ?_)))))))))
 refine or_ 2 (decide (c = (42 : UInt8))) (fun g1 => ?_) ?_
 ·have g1r := g1
  refine sg_ g1 mv_ (jg_ g1 (vB (decide (c = (42 : UInt8)))) (x_eql_u8 rfl rfl) ?_)
  exact cr_
 refine s_ av_ (z_ (n_ (rt_ ?_)))
 exact p1 Tryz.results51 rfl ⟨(eB (by rfl)), rfl⟩
set_option maxRecDepth 20000 in
theorem f53_ok (c : UInt8) (w : World) : Calls Tryz.prog 53 #[vU8 c] w (Gives [] w fun v L => v = vB (R44.isPs c) ∧ L = []) := by
 refine calls_J [] 9 Tryz.func53 rfl Tryz.ntmps53 [(0, _)] rfl rfl (Give.nil w) ?_
 refine q_ (g_ (s_ av_ (z_ (n_ (q_ (g_ (s_ mv_ (c0 (cl_ Ty.ca32) (fun w hS => f32_ok c w) (s_ mv_ ?_)))))))))
 refine or_ 2 (decide (c = (42 : UInt8))) (fun g1 => ?_) ?_
 ·have g1r := g1
  refine sg_ g1 mv_ (jg_ g1 (vB (decide (c = (42 : UInt8)))) (x_eql_u8 rfl rfl) ?_)
  exact cr_
 refine s_ av_ (z_ (n_ (rt_ ?_)))
 exact p1 Tryz.results53 rfl ⟨(eB (by rfl)), rfl⟩
set_option maxRecDepth 20000 in
theorem fq1_ok (s : Bytes) (w : World) (q0 : s.length ≤ 9223372036854775807) : Calls Tryz.prog 30 #[vS s, Value.func (.func 31) #[] #[], Value.func (.func 32) #[] #[]] w (Gives [] w fun v L => v = vB (R44.qualV R44.isUp R44.isPl s) ∧ L = []) := by
 refine calls_J [] 35 Tryz.func30 rfl Tryz.ntmps30 [(0, _), (1, _), (2, _)] rfl rfl (Give.nil w) ?_
 refine q_ (g_ (s_ av_ (z_ (n_ (q_ (q_ (g_ (s_ mv_ (s_ (x_len_s rfl Tryz.underlying9) (s_ (x_lss_i rfl rfl) (s_ mv_ ?_)))))))))))
 refine or_ 3 (decide ((8 : Int) < ((s.length : Nat) : Int))) (fun g1 => ?_) ?_
 ·have g1r := g1
  have g1r := of_decide_eq_false g1r
  refine sg_ g1 mv_ (sg_ g1 (x_len_s rfl Tryz.underlying9) (sg_ g1 (x_gtr_i rfl rfl) ?_))
  exact cr_
 refine s_ mv_ ?_
 refine or_ 5 (!(R44.isUp (s.getD 0 0))) (fun g2 => ?_) ?_
 ·have g2r := g2
  have ⟨g2r, h3⟩ := bor_false g2r
  have g2r := of_decide_eq_false g2r
  have h3 := of_decide_eq_false h3
  refine sg_ g2 mv_ (sg_ g2 mv_ (sg_ g2 (x_idx_s (k := 0) rfl rfl Tryz.underlying9 (by omega)) (c0g g2 (x_callv (first := []) (caps := []) rfl Ty.ca31 rfl) (fun w hS => f31_ok _ w) (sg_ g2 (x_not rfl) ?_))))
  exact cr_
 refine z_ (n_ ?_)
 refine if_ (fun h4 => ?_) (fun h4 => ?_)
 ·have h4w := h4
  simp only [Bool.and_eq_true, Bool.or_eq_true, Bool.and_eq_false_iff, Bool.or_eq_false_iff, Bool.not_eq_true', Bool.not_eq_false', decide_eq_true_eq, decide_eq_false_iff_not] at h4
  refine q_ (g_ (s_ av_ (z_ (n_ (rt_ (nr_ ?_))))))
  exact p1 Tryz.results30 rfl ⟨(eB ca0_), rfl⟩
 ·have h4w := h4
  have ⟨h4, h5⟩ := bor_false h4
  have ⟨h4, h6⟩ := bor_false h4
  have h4 := of_decide_eq_false h4
  have h6 := of_decide_eq_false h6
  have h5 : (R44.isUp (s.getD 0 0)) = true := bnot_false h5
  refine sk_ (n_ (q_ (q_ (g_ (s_ av_ (z_ (n_ (k_ ?_))))))))
  refine J_loop (X := Nat) (fun (k : Nat) => (1 ≤ k) ∧ (k ≤ s.length) ∧ (∀ i, 1 ≤ i → i < k → R44.isPl (s.getD i 0) = true)) (fun (k : Nat) => [(0, vS s), (2, Value.func (.func 32) #[] #[]), (7, vI ((k : Nat) : Int))]) (fun (k : Nat) => []) (fun (k : Nat) => s.length - k) (1 : Nat) ?_ ⟨rfl, rfl, rfl, trivial⟩ (fun _ h => h) ?_
  ·try dsimp only
   refine ⟨?_, ?_, ?_⟩
   ·first | rfl | omega | (simp_all; done) | (simp_all; omega)
   ·first | rfl | omega | (simp_all; done) | (simp_all; omega)
   ·intro i h1 h2; omega
  intro k hI1
  obtain ⟨i1_0, i1_1, i1_2⟩ := hI1
  try dsimp only at i1_0
  try dsimp only at i1_1
  try dsimp only at i1_2
  try dsimp only
  refine q_ (q_ (g_ (s_ mv_ (s_ mv_ (s_ (x_len_s rfl Tryz.underlying9) (s_ (x_lss_i rfl rfl) (z_ (n_ ?_))))))))
  refine ifd (fun h7w h7 => ?_) (fun h7w h7 => ?_)
  ·refine sk_ (n_ (q_ (k_ (q_ (g_ (s_ mv_ (s_ mv_ (s_ mv_ (s_ (x_idx_s (k := k) rfl rfl Tryz.underlying9 (by omega)) (c0 (x_callv (first := []) (caps := []) rfl Ty.ca32 rfl) (fun w hS => f32_ok _ w) (s_ (x_not rfl) (z_ (n_ ?_)))))))))))))
   refine if_ (fun h8 => ?_) (fun h8 => ?_)
   ·have h8w := h8
    have h8 : (R44.isPl (s.getD k 0)) = false := bnot_true h8
    refine q_ (g_ (s_ av_ (z_ (n_ (rt_ (kq_ (nr_ (rr_ (kq_ (nr_ ?_))))))))))
    exact p1 Tryz.results30 rfl ⟨(eB ca0_), rfl⟩
   ·have h8w := h8
    have h8 : (R44.isPl (s.getD k 0)) = true := bnot_false h8
    refine sk_ (kx_ (n_ (g_ (s_ mv_ (s_ (x_add_n (a := k) (b := 1) rfl rfl (by omega)) (s_ av_ (z_ ?_)))))))
    refine JX_round (k + 1 : Nat) ?_ ?_ ⟨rfl, rfl, rfl, trivial⟩ (fun _ h => h)
    ·try dsimp only
     refine ⟨?_, ?_, ?_⟩
     ·first | rfl | omega | (simp_all; done) | (simp_all; omega)
     ·first | rfl | omega | (simp_all; done) | (simp_all; omega)
     ·exact R44.qual_step i1_2 (by assumption)
    ·try dsimp only
     first | omega | (simp; omega) | (simp_all; omega)
  ·refine J_exit (ne_ (re_ (kh_ (n_ (q_ ?_)))))
   refine g_ (s_ av_ (z_ (n_ (rt_ ?_))))
   exact p1 Tryz.results30 rfl ⟨(eB ca0_), rfl⟩
set_option maxRecDepth 20000 in
theorem fq2_ok (s : Bytes) (w : World) (q0 : s.length ≤ 9223372036854775807) : Calls Tryz.prog 30 #[vS s, Value.func (.func 51) #[] #[], Value.func (.func 53) #[] #[]] w (Gives [] w fun v L => v = vB (R44.qualV R44.isSt R44.isPs s) ∧ L = []) := by
 refine calls_J [] 35 Tryz.func30 rfl Tryz.ntmps30 [(0, _), (1, _), (2, _)] rfl rfl (Give.nil w) ?_
 refine q_ (g_ (s_ av_ (z_ (n_ (q_ (q_ (g_ (s_ mv_ (s_ (x_len_s rfl Tryz.underlying9) (s_ (x_lss_i rfl rfl) (s_ mv_ ?_)))))))))))
 refine or_ 3 (decide ((8 : Int) < ((s.length : Nat) : Int))) (fun g1 => ?_) ?_
 ·have g1r := g1
  have g1r := of_decide_eq_false g1r
  refine sg_ g1 mv_ (sg_ g1 (x_len_s rfl Tryz.underlying9) (sg_ g1 (x_gtr_i rfl rfl) ?_))
  exact cr_
 refine s_ mv_ ?_
 refine or_ 5 (!(R44.isSt (s.getD 0 0))) (fun g2 => ?_) ?_
 ·have g2r := g2
  have ⟨g2r, h3⟩ := bor_false g2r
  have g2r := of_decide_eq_false g2r
  have h3 := of_decide_eq_false h3
  refine sg_ g2 mv_ (sg_ g2 mv_ (sg_ g2 (x_idx_s (k := 0) rfl rfl Tryz.underlying9 (by omega)) (c0g g2 (x_callv (first := []) (caps := []) rfl Ty.ca51 rfl) (fun w hS => f51_ok _ w) (sg_ g2 (x_not rfl) ?_))))
  exact cr_
 refine z_ (n_ ?_)
 refine if_ (fun h4 => ?_) (fun h4 => ?_)
 ·have h4w := h4
  simp only [Bool.and_eq_true, Bool.or_eq_true, Bool.and_eq_false_iff, Bool.or_eq_false_iff, Bool.not_eq_true', Bool.not_eq_false', decide_eq_true_eq, decide_eq_false_iff_not] at h4
  refine q_ (g_ (s_ av_ (z_ (n_ (rt_ (nr_ ?_))))))
  exact p1 Tryz.results30 rfl ⟨(eB ca0_), rfl⟩
 ·have h4w := h4
  have ⟨h4, h5⟩ := bor_false h4
  have ⟨h4, h6⟩ := bor_false h4
  have h4 := of_decide_eq_false h4
  have h6 := of_decide_eq_false h6
  have h5 : (R44.isSt (s.getD 0 0)) = true := bnot_false h5
  refine sk_ (n_ (q_ (q_ (g_ (s_ av_ (z_ (n_ (k_ ?_))))))))
  refine J_loop (X := Nat) (fun (k : Nat) => (1 ≤ k) ∧ (k ≤ s.length) ∧ (∀ i, 1 ≤ i → i < k → R44.isPs (s.getD i 0) = true)) (fun (k : Nat) => [(0, vS s), (2, Value.func (.func 53) #[] #[]), (7, vI ((k : Nat) : Int))]) (fun (k : Nat) => []) (fun (k : Nat) => s.length - k) (1 : Nat) ?_ ⟨rfl, rfl, rfl, trivial⟩ (fun _ h => h) ?_
  ·try dsimp only
   refine ⟨?_, ?_, ?_⟩
   ·first | rfl | omega | (simp_all; done) | (simp_all; omega)
   ·first | rfl | omega | (simp_all; done) | (simp_all; omega)
   ·intro i h1 h2; omega
  intro k hI1
  obtain ⟨i1_0, i1_1, i1_2⟩ := hI1
  try dsimp only at i1_0
  try dsimp only at i1_1
  try dsimp only at i1_2
  try dsimp only
  refine q_ (q_ (g_ (s_ mv_ (s_ mv_ (s_ (x_len_s rfl Tryz.underlying9) (s_ (x_lss_i rfl rfl) (z_ (n_ ?_))))))))
  refine ifd (fun h7w h7 => ?_) (fun h7w h7 => ?_)
  ·refine sk_ (n_ (q_ (k_ (q_ (g_ (s_ mv_ (s_ mv_ (s_ mv_ (s_ (x_idx_s (k := k) rfl rfl Tryz.underlying9 (by omega)) (c0 (x_callv (first := []) (caps := []) rfl Ty.ca53 rfl) (fun w hS => f53_ok _ w) (s_ (x_not rfl) (z_ (n_ ?_)))))))))))))
   refine if_ (fun h8 => ?_) (fun h8 => ?_)
   ·have h8w := h8
    have h8 : (R44.isPs (s.getD k 0)) = false := bnot_true h8
    refine q_ (g_ (s_ av_ (z_ (n_ (rt_ (kq_ (nr_ (rr_ (kq_ (nr_ ?_))))))))))
    exact p1 Tryz.results30 rfl ⟨(eB ca0_), rfl⟩
   ·have h8w := h8
    have h8 : (R44.isPs (s.getD k 0)) = true := bnot_false h8
    refine sk_ (kx_ (n_ (g_ (s_ mv_ (s_ (x_add_n (a := k) (b := 1) rfl rfl (by omega)) (s_ av_ (z_ ?_)))))))
    refine JX_round (k + 1 : Nat) ?_ ?_ ⟨rfl, rfl, rfl, trivial⟩ (fun _ h => h)
    ·try dsimp only
     refine ⟨?_, ?_, ?_⟩
     ·first | rfl | omega | (simp_all; done) | (simp_all; omega)
     ·first | rfl | omega | (simp_all; done) | (simp_all; omega)
     ·exact R44.qual_step i1_2 (by assumption)
    ·try dsimp only
     first | omega | (simp; omega) | (simp_all; omega)
  ·refine J_exit (ne_ (re_ (kh_ (n_ (q_ ?_)))))
   refine g_ (s_ av_ (z_ (n_ (rt_ ?_))))
   exact p1 Tryz.results30 rfl ⟨(eB ca0_), rfl⟩
set_option maxRecDepth 20000 in
theorem f29_ok (s : Bytes) (w : World) (q0 : s.length ≤ 9223372036854775807) : Calls Tryz.prog 29 #[vS s] w (Gives [] w fun v L => v = vB (R44.qualV R44.isUp R44.isPl s) ∧ L = []) := by
 refine calls_J [] 5 Tryz.func29 rfl Tryz.ntmps29 [(0, _)] rfl rfl (Give.nil w) ?_
 refine q_ (g_ (s_ av_ (z_ (n_ (q_ (g_ (s_ mv_ (c0 (cl_ Ty.ca30) (fun w hS => fq1_ok s w hy_) (s_ av_ (z_ (n_ (rt_ ?_))))))))))))
 exact p1 Tryz.results29 rfl ⟨rfl, rfl⟩
end Go.Proofs.YtmacopacmpgieaaGreatDoor
