/- Pl44g, Pl44h, Pl44i, Pl44j, Pl44k, Eq44, Ad44 in one text. -/
import Derived.Test.YtnfglkgahlaofaaGreatDoorAll10
import Derived.Test.YtnfglkgahlaofaaGreatDoorAll6
import Derived.Test.YtnfglkgahlaofaaGreatDoorAll7
import Derived.Test.YtnfglkgahlaofaaGreatDoorAll3
import Derived.Test.YtnfglkgahlaofaaGreatDoorAll5
import Derived.Test.YtnfglkgahlaofaaGreatDoorAll9
import Derived.Test.YtnfglkgahlaofaaGreatDoorAll4
set_option linter.unusedVariables false
set_option linter.unusedSimpArgs false
namespace Go.Proofs.YtnfglkgahlaofaaGreatDoor
open Go.GV
namespace R44
open Srt (Cmp)
section
variable {c : Bytes → Bytes → Int} {rest lists : List Rw} {k : Nat} {b : Int}
theorem set_getW {x : Rw} {j i : Nat} : (rest.set j x).getD i default = if j = i ∧ j < rest.length then x else rest.getD i default := by
  rw [List.getD_eq_getElem?_getD, List.getElem?_set]
  by_cases h : j = i
  · subst h
    by_cases h2 : j < rest.length
    · rw [if_pos rfl, if_pos h2, if_pos ⟨rfl, h2⟩]; rfl
    · rw [if_pos rfl, if_neg h2, if_neg (fun h => h2 h.2), List.getD_eq_getElem?_getD, List.getElem?_eq_none (by omega)]
  · rw [if_neg h, if_neg (fun h2 => h h2.1), ← List.getD_eq_getElem?_getD]
theorem ron_set {S : List Nat} {w : World} (h : ∀ i : Nat, RO S w (rest.getD i default).sA ((rest.getD i default).s.map vS)) {j : Nat} {x : Rw} (hx : RO S w x.sA (x.s.map vS)) (i : Nat) : RO S w ((rest.set j x).getD i default).sA (((rest.set j x).getD i default).s.map vS) := by
  rw [set_getW]; split
  · exact hx
  · exact h i
theorem cap_set (h : ∀ i : Nat, (rest.getD i default).s.length ≤ (rest.getD i default).sC) {j : Nat} {A : Option Addr} (i : Nat) : ((rest.set j (Rw.mk ((rest.getD j default).s.drop 1) A ((rest.getD j default).sC - 1))).getD i default).s.length ≤ ((rest.set j (Rw.mk ((rest.getD j default).s.drop 1) A ((rest.getD j default).sC - 1))).getD i default).sC := by
  rw [set_getW]; split
  · show ((rest.getD j default).s.drop 1).length ≤ (rest.getD j default).sC - 1
    have := h j
    rw [List.length_drop]; omega
  · exact h i
theorem rw_nil (h : (rest.getD k default).s.length ≤ 0) : (rest.map Rw.s).getD k [] = [] := by
  rw [map_at]; exact List.length_eq_zero_iff.1 (by omega)
theorem rw_cons (h : 0 < (rest.getD k default).s.length) : (rest.map Rw.s).getD k [] = (rest.getD k default).s.getD 0 [] :: (rest.getD k default).s.drop 1 := by
  rw [map_at]; exact drop_cons (d := []) (k := 0) h
def Subs (lists rest : List Rw) : Prop := ∀ k, ∃ j, (rest.getD k default).s = (lists.getD k default).s.drop j
theorem Subs.start : Subs lists lists := fun _ => ⟨0, rfl⟩
theorem Subs.step (h : Subs lists rest) (b : Nat) (A : Option Addr) (C : Nat) : Subs lists (rest.set b (Rw.mk ((rest.getD b default).s.drop 1) A C)) := fun k => by
  rw [set_getW]
  split
  · rename_i h1
    obtain ⟨j, hj⟩ := h k
    refine ⟨j + 1, ?_⟩
    rw [h1.1]
    show (rest.getD k default).s.drop 1 = _
    rw [hj, List.drop_drop]
  · exact h k
theorem Subs.short (h : Subs lists rest) {n : Nat} (hq : ∀ i j, ((lists.getD i default).s.getD j []).length ≤ n) (k j : Nat) : ((rest.getD k default).s.getD j []).length ≤ n := by
  obtain ⟨i, hi⟩ := h k
  rw [hi, List.getD_eq_getElem?_getD, List.getElem?_drop, ← List.getD_eq_getElem?_getD]; exact hq k _
theorem posS (hb : BI c (rest.map Rw.s) k b) (hc : Cmp c) (hk : k ≤ rest.length) : -1 ≤ b ∧ b < (k : Int) ∧ (0 ≤ b → b.toNat < rest.length ∧ 0 < (rest.getD b.toNat default).s.length) := by
  have h1 := hb.bd hc
  refine ⟨h1.1, h1.2, fun h0 => ⟨by omega, ?_⟩⟩
  have h2 := hb.head hc h0
  rw [map_at] at h2
  exact List.length_pos_iff.2 h2
theorem set_drop {j : Nat} {x : Rw} : (rest.set j x).map Rw.s = (rest.map Rw.s).set j x.s := List.map_set
section
variable {ls : List (List Bytes)} {out : List Bytes}
theorem mj_yield (h : MergeJ c ls out (rest.map Rw.s)) (hb : BI c (rest.map Rw.s) k b) (hk : k = rest.length) (h0 : 0 ≤ b) (hl : 0 < (rest.getD b.toNat default).s.length) : Srt.merge c ls = out ++ (rest.getD b.toNat default).s.getD 0 [] :: Srt.merge c ((rest.map Rw.s).set b.toNat ((rest.getD b.toNat default).s.drop 1)) := by
  have hb2 := hb.some_ h0
  rw [← h.1, Srt.merge_some (by rw [List.length_map, ← hk]; exact hb2) (rw_cons hl)]
theorem mj_step (hc : Cmp c) (h : MergeJ c ls out (rest.map Rw.s)) (hb : BI c (rest.map Rw.s) k b) (hk : k = rest.length) (h0 : 0 ≤ b) {A : Option Addr} {C : Nat} : MergeJ c ls (out ++ [(rest.getD b.toNat default).s.getD 0 []]) ((rest.set b.toNat (Rw.mk ((rest.getD b.toNat default).s.drop 1) A C)).map Rw.s) := by
  have hp := (posS hb hc (by omega)).2.2 h0
  rw [set_drop]
  exact h.step (by rw [List.length_map, ← hk]; exact hb) h0 (rw_cons hp.2)
theorem mj_less {A : Option Addr} {C : Nat} (h0 : 0 ≤ b) (h : 0 ≤ b → b.toNat < rest.length ∧ 0 < (rest.getD b.toNat default).s.length) : ((rest.set b.toNat (Rw.mk ((rest.getD b.toNat default).s.drop 1) A C)).map Rw.s).flatten.length < (rest.map Rw.s).flatten.length := by
  have := Srt.set_total (rw_cons (h h0).2)
  unfold Srt.total at this
  rw [set_drop]
  show ((rest.map Rw.s).set b.toNat ((rest.getD b.toNat default).s.drop 1)).flatten.length < _
  omega
theorem mj_done (h : MergeJ c ls out (rest.map Rw.s)) (hb : BI c (rest.map Rw.s) k b) (hk : k = rest.length) (h0 : b < 0) : out = Srt.merge c ls :=
  h.done (by rw [List.length_map, ← hk]; exact hb) h0
end
end
theorem merge_pre {c : Bytes → Bytes → Int} (hc : Cmp c) {ls : List (List Bytes)} {n : Nat} (hn : ls.flatten.length ≤ n) {pre rest : List Bytes} {a : Bytes} (h : Srt.merge c ls = pre ++ a :: rest) : pre.length < n := by
  have h1 := (Srt.merge_perm hc ls).length_eq
  rw [h] at h1
  simp only [List.length_append, List.length_cons] at h1
  omega
theorem mergeV_yes {l : List SortField} {ls : List (List Bytes)} (h : valid l = true) : Srt.merge (cmpL l) ls = mergeV l ls := by unfold mergeV; rw [if_pos h]
end R44
end Go.Proofs.YtnfglkgahlaofaaGreatDoor

namespace Go.Proofs.YtnfglkgahlaofaaGreatDoor
open Go.GV
namespace R44
open Srt (Cmp)
theorem ix_yes {l : List Bytes} {k : Nat} (hk : k < l.length) (h : 1000 < (l.getD k []).length) : decide (0 ≤ ((k : Nat) : Int)) = long l := by
  rw [← long_hit hk h]; exact decide_eq_true (by omega)
theorem ix_no {l : List Bytes} (h : ∀ i, i < l.length → (l.getD i []).length ≤ 1000) : decide (0 ≤ (-1 : Int)) = long l := by rw [← long_none h]; rfl
def inR (f : Bytes → Bytes × Bool) (rs : List Bytes) : List Bytes × Int × Int := match inputs f rs with
  | some out => (out, (rs.length : Int) - (out.length : Int), 0)
  | none => ([], 0, 8)
theorem inR_end {f : Bytes → Bytes × Bool} {rs out : List Bytes} (h : inputs f rs = some out) : (out, (rs.length : Int) - (out.length : Int), 0) = inR f rs := by unfold inR; rw [h]
end R44
end Go.Proofs.YtnfglkgahlaofaaGreatDoor

namespace Go.Proofs.YtnfglkgahlaofaaGreatDoor
open Go.GV
structure Part where
  s : List Rw
  sA : Option Addr
  sC : Nat
deriving Inhabited
def Part.enc (a : Part) : List Value := [vL a.sA a.s.length a.sC]
namespace R44
open Srt (Cmp)
def part (n : Nat) (rws : List Rw) (A : Option Addr) (lo : Nat) : Part := ⟨(rws.drop lo).take (min n (rws.length - lo)), subA A (lo + min n (rws.length - lo)) lo 1, min n (rws.length - lo)⟩
theorem part_enc {n : Nat} {rws : List Rw} {A : Option Addr} {lo : Nat} : [vL (subA A (lo + min n (rws.length - lo)) lo 1) (min n (rws.length - lo)) (min n (rws.length - lo))] = Part.enc (part n rws A lo) := by
  show _ = [vL _ (((rws.drop lo).take (min n (rws.length - lo))).length) _]
  rw [List.length_take, List.length_drop, Nat.min_eq_left (Nat.min_le_right _ _)]; rfl
def partsN (n : Nat) (rws : List Rw) (A : Option Addr) : Nat → Nat → List Part
  | 0, _ => []
  | f + 1, lo => if lo < rws.length then part n rws A lo :: partsN n rws A f (lo + n) else []
def parts (n : Nat) (rws : List Rw) (A : Option Addr) : List Part := partsN n rws A rws.length 0
section
variable {n : Nat} {rws : List Rw} {A : Option Addr} {lo : Nat} {pre : List Part}
theorem partsN_any (hn : 1 ≤ n) : ∀ (f f' lo : Nat), rws.length - lo ≤ f → rws.length - lo ≤ f' → partsN n rws A f lo = partsN n rws A f' lo
  | 0, 0, _, _, _ => rfl
  | 0, f' + 1, lo, h, _ => by rw [partsN, partsN, if_neg (by omega)]
  | f + 1, 0, lo, _, h => by rw [partsN, partsN, if_neg (by omega)]
  | f + 1, f' + 1, lo, h, h' => by
    rw [partsN, partsN]
    split
    · rw [partsN_any hn f f' (lo + n) (by omega) (by omega)]
    · rfl
def PartJ (n : Nat) (rws : List Rw) (A : Option Addr) (pre : List Part) (lo : Nat) : Prop := pre ++ partsN n rws A rws.length lo = parts n rws A
theorem PartJ.start : PartJ n rws A [] 0 := rfl
theorem partsN_cons (hn : 1 ≤ n) (h : lo < rws.length) : partsN n rws A rws.length lo = part n rws A lo :: partsN n rws A rws.length (lo + n) := by
  obtain ⟨f, hf⟩ : ∃ f, rws.length = f + 1 := ⟨rws.length - 1, by omega⟩
  conv => lhs; rw [hf]
  rw [partsN, if_pos h, partsN_any hn f rws.length (lo + n) (by omega) (by omega)]
theorem PartJ.yield (h : PartJ n rws A pre lo) (hn : 1 ≤ n) (hl : lo < rws.length) : parts n rws A = pre ++ part n rws A lo :: partsN n rws A rws.length (lo + n) := by
  rw [← partsN_cons hn hl]; exact h.symm
theorem PartJ.step (h : PartJ n rws A pre lo) (hn : 1 ≤ n) (hl : lo < rws.length) : PartJ n rws A (pre ++ [part n rws A lo]) (lo + n) := by
  unfold PartJ; rw [h.yield hn hl]; simp
theorem PartJ.done (h : PartJ n rws A pre lo) (hl : ¬ lo < rws.length) : pre = parts n rws A := by
  rw [← h]
  have : partsN n rws A rws.length lo = [] := by
    cases rws.length with
    | zero => rfl
    | succ f => rw [partsN, if_neg (by omega)]
  rw [this, List.append_nil]
theorem partsN_mem : ∀ (f lo : Nat) {p : Part}, p ∈ partsN n rws A f lo → ∃ k, k < rws.length ∧ p = part n rws A k
  | 0, _, _, h => by cases h
  | f + 1, lo, p, h => by
    rw [partsN] at h
    split at h
    · rename_i hl
      rcases List.mem_cons.1 h with rfl | h
      · exact ⟨lo, hl, rfl⟩
      · exact partsN_mem f _ h
    · cases h
theorem part_of {p : Part} {rest : List Part} (h : parts n rws A = pre ++ p :: rest) : ∃ k, k < rws.length ∧ p = part n rws A k := partsN_mem rws.length 0 (by show p ∈ parts n rws A; rw [h]; simp)
theorem partsN_len : ∀ (f lo : Nat), (partsN n rws A f lo).length ≤ f
  | 0, _ => Nat.le_refl _
  | f + 1, lo => by
    rw [partsN]; split
    · rw [List.length_cons]; have := partsN_len f (lo + n); omega
    · exact Nat.zero_le _
theorem part_pre {p : Part} {rest : List Part} (h : parts n rws A = pre ++ p :: rest) : pre.length < rws.length := by
  have h1 : (parts n rws A).length ≤ rws.length := partsN_len _ _
  rw [h] at h1; simp at h1; omega
theorem sub_at {k m i : Nat} : ((rws.drop k).take m).getD i default = if i < m then rws.getD (k + i) default else default := by
  rw [List.getD_eq_getElem?_getD, List.getElem?_take]
  split
  · rw [List.getElem?_drop, ← List.getD_eq_getElem?_getD]
  · rfl
variable {rest : List Part} {ps : List Rw} {pA : Option Addr} {pC : Nat}
theorem part_ro {S : List Nat} {w : World} (h : parts n rws A = pre ++ ⟨ps, pA, pC⟩ :: rest) (hr : RO S w A (rws.flatMap Rw.enc)) : RO S w pA (ps.flatMap Rw.enc) := by
  obtain ⟨k, hk, e⟩ := part_of h
  cases e
  have := hr.sub (k + min n (rws.length - k)) k (min n (rws.length - k)) 1 (by omega)
  rwa [← drop_flat Rw.enc 1 Rw.enc_len, ← take_flat Rw.enc 1 Rw.enc_len] at this
theorem part_ron {S : List Nat} {w : World} (h : parts n rws A = pre ++ ⟨ps, pA, pC⟩ :: rest) (hr : ∀ i : Nat, RO S w (rws.getD i default).sA ((rws.getD i default).s.map vS)) (i : Nat) : RO S w (ps.getD i default).sA ((ps.getD i default).s.map vS) := by
  obtain ⟨k, hk, e⟩ := part_of h
  cases e
  rw [sub_at]; split
  · exact hr _
  · exact RO.nil
theorem part_len (h : parts n rws A = pre ++ ⟨ps, pA, pC⟩ :: rest) {m : Nat} (hm : rws.length ≤ m) : ps.length ≤ m := by
  obtain ⟨k, hk, e⟩ := part_of h
  cases e
  rw [List.length_take, List.length_drop]; omega
theorem part_short (h : parts n rws A = pre ++ ⟨ps, pA, pC⟩ :: rest) {m : Nat} (hm : ∀ i j, ((rws.getD i default).s.getD j []).length ≤ m) (i j : Nat) : ((ps.getD i default).s.getD j []).length ≤ m := by
  obtain ⟨k, hk, e⟩ := part_of h
  cases e
  rw [sub_at]; split
  · exact hm _ _
  · exact Nat.zero_le _
theorem part_cap (h : parts n rws A = pre ++ ⟨ps, pA, pC⟩ :: rest) (hm : ∀ i : Nat, (rws.getD i default).s.length ≤ (rws.getD i default).sC) (i : Nat) : (ps.getD i default).s.length ≤ (ps.getD i default).sC := by
  obtain ⟨k, hk, e⟩ := part_of h
  cases e
  rw [sub_at]; split
  · exact hm _
  · exact Nat.zero_le _
theorem flat_sub {α : Type} (X : List (List α)) (k m : Nat) : ((X.drop k).take m).flatten.length ≤ X.flatten.length := by
  have h1 := congrArg (fun l => (List.flatten l).length) (List.take_append_drop k X)
  have h2 := congrArg (fun l => (List.flatten l).length) (List.take_append_drop m (X.drop k))
  simp only [List.flatten_append, List.length_append] at h1 h2
  omega
theorem part_flat (h : parts n rws A = pre ++ ⟨ps, pA, pC⟩ :: rest) {m : Nat} (hm : (rws.map Rw.s).flatten.length ≤ m) : (ps.map Rw.s).flatten.length ≤ m := by
  obtain ⟨k, hk, e⟩ := part_of h
  cases e
  refine Nat.le_trans ?_ hm
  rw [List.map_take, List.map_drop]
  exact flat_sub _ _ _
theorem parts_chunks (hn : 1 ≤ n) : ∀ (f lo : Nat), rws.length - lo ≤ f → (partsN n rws A f lo).map (fun p => p.s.map Rw.s) = Srt.chunks n ((rws.drop lo).map Rw.s)
  | 0, lo, h => by rw [List.drop_of_length_le (by omega)]; rfl
  | f + 1, lo, hf => by
    rw [partsN]
    by_cases h : lo < rws.length
    · rw [if_pos h, Srt.chunks_cons (by omega) (by rw [ne_eq, List.map_eq_nil_iff, List.drop_eq_nil_iff]; omega), List.map_cons, parts_chunks hn f (lo + n) (by omega), ← List.map_take, ← List.map_drop, List.drop_drop]
      congr 1
      show ((rws.drop lo).take (min n (rws.length - lo))).map Rw.s = _
      by_cases h2 : n ≤ rws.length - lo
      · rw [Nat.min_eq_left h2]
      · rw [Nat.min_eq_right (by omega), List.take_of_length_le (by rw [List.length_drop]; omega), List.take_of_length_le (by rw [List.length_drop]; omega)]
    · rw [if_neg h, List.drop_of_length_le (by omega)]; rfl
theorem parts_pass {l : List SortField} (hv : valid l = true) (hn : 1 ≤ n) : (parts n rws A).map (fun p => mergeV l (p.s.map Rw.s)) = Srt.pass (cmpL l) n (rws.map Rw.s) := by
  have h := parts_chunks (rws := rws) (A := A) hn rws.length 0 (by omega)
  unfold Srt.pass
  rw [show rws.map Rw.s = (rws.drop 0).map Rw.s from rfl, ← h, List.map_map]
  refine List.map_congr_left fun p _ => ?_
  exact (mergeV_yes hv).symm
end
structure PassJ (c : Bytes → Bytes → Int) (f : Nat) (R0 X : List (List Bytes)) (np : Nat) : Prop where
  fin : (Srt.rounds c f X).1 = (Srt.rounds c f R0).1
  cnt : np + (Srt.rounds c f X).2 = (Srt.rounds c f R0).2
  perm : X.flatten.Perm R0.flatten
  few : X.length ≤ R0.length
section
variable {c : Bytes → Bytes → Int} {f np : Nat} {R0 X : List (List Bytes)}
theorem PassJ.start : PassJ c f R0 R0 0 := ⟨rfl, Nat.zero_add _, .refl _, Nat.le_refl _⟩
theorem PassJ.step (hc : Cmp c) (hf : 2 ≤ f) (h : PassJ c f R0 X np) (hl : 1 < X.length) : PassJ c f R0 (Srt.pass c f X) (np + 1) := by
  have hr := Srt.rounds_more (c := c) hf hl
  have h1 := h.fin
  have h2 := h.cnt
  rw [hr] at h1 h2
  refine ⟨h1, ?_, (Srt.pass_perm hc (by omega) X).trans h.perm, ?_⟩
  · simp only at h2; omega
  · have := Srt.pass_less (c := c) hf hl; have := h.few; omega
theorem PassJ.done (h : PassJ c f R0 X np) (hl : ¬ 1 < X.length) : (Srt.rounds c f R0).1 = X ∧ (Srt.rounds c f R0).2 = np := by
  have hr := Srt.rounds_done (c := c) (n := f) (ls := X) (by omega)
  have h1 := h.fin
  have h2 := h.cnt
  rw [hr] at h1 h2
  exact ⟨h1.symm, by simp only at h2; omega⟩
end
theorem passes_le (f : Nat) : ∀ m n : Nat, Srt.passes f m n ≤ m
  | 0, _ => Nat.le_refl _
  | m + 1, n => by
    rw [Srt.passes]; split
    · exact Nat.zero_le _
    · have := passes_le f m ((n + f - 1) / f); omega
theorem pass_bounds {l : List SortField} {m : Nat} (hm : 0 < m) {inn : List Bytes} {rws : List Rw} {f np : Nat} (hf : 2 ≤ f) (h : PassJ (cmpL l) f (Srt.runs (cmpL l) m inn) (rws.map Rw.s) np) {N n : Nat} (hi : inn.length ≤ N) (hs : ∀ i, (inn.getD i []).length ≤ n) :
    rws.length ≤ N ∧ (rws.map Rw.s).flatten.length ≤ N ∧ (∀ i j, ((rws.getD i default).s.getD j []).length ≤ n) ∧ np ≤ N := by
  have hp := h.perm.trans (Srt.runs_perm (cmpL_ok l) hm inn)
  have h1 := h.few
  have h2 := (runs_small (cmpL_ok l) hm inn).1
  rw [List.length_map] at h1
  have h3 := h.cnt
  rw [Srt.rounds_count hf, Srt.rounds_count hf] at h3
  have h4 := passes_le f (Srt.runs (cmpL l) m inn).length (Srt.runs (cmpL l) m inn).length
  refine ⟨by omega, by rw [hp.length_eq]; exact hi, fun i j => ?_, by omega⟩
  by_cases hi : i < rws.length
  · by_cases hj : j < (rws.getD i default).s.length
    · have hm1 : (rws.getD i default).s.getD j [] ∈ (rws.map Rw.s).flatten := List.mem_flatten.2 ⟨(rws.getD i default).s, List.mem_map_of_mem (getD_mem hi), getD_mem hj⟩
      obtain ⟨k, hk, e⟩ := getD_ex (d := []) (hp.mem_iff.1 hm1)
      rw [← e]; exact hs k
    · rw [List.getD_eq_getElem?_getD, List.getElem?_eq_none (by omega)]; exact Nat.zero_le _
  · rw [getD_out (by omega)]; exact Nat.zero_le _
theorem map_lens {next : List Rw} {pre : List Part} {f : Part → List Bytes} (h : next.map Rw.s = pre.map f) : next.length = pre.length := by
  have := congrArg List.length h
  rwa [List.length_map, List.length_map] at this
theorem PassJ.start_of {c : Bytes → Bytes → Int} {f : Nat} {R0 X : List (List Bytes)} (h : X = R0) : PassJ c f R0 X 0 := by subst h; exact .start
theorem pass_next {l : List SortField} {kf np : Nat} {R0 : List (List Bytes)} {runs next : List Rw} {A : Option Addr} (hc : Cmp (cmpL l)) (hf : 2 ≤ kf) (h : PassJ (cmpL l) kf R0 (runs.map Rw.s) np) (hl : 1 < runs.length) (hv : valid l = true) (hn : next.map Rw.s = (parts kf runs A).map (fun p => mergeV l (p.s.map Rw.s))) : PassJ (cmpL l) kf R0 (next.map Rw.s) (np + 1) := by
  rw [hn, parts_pass hv (by omega)]
  exact h.step hc hf (by rw [List.length_map]; exact hl)
theorem pass_dec {l : List SortField} {kf : Nat} {runs next : List Rw} {A : Option Addr} (hf : 2 ≤ kf) (hl : 1 < runs.length) (hv : valid l = true) (hn : next.map Rw.s = (parts kf runs A).map (fun p => mergeV l (p.s.map Rw.s))) : next.length < runs.length := by
  have h1 := map_lens (hn.trans rfl)
  have h2 := congrArg List.length hn
  rw [parts_pass hv (by omega), List.length_map] at h2
  have := Srt.pass_less (c := cmpL l) hf (ls := runs.map Rw.s) (by rw [List.length_map]; exact hl)
  rw [List.length_map] at this; omega
abbrev g1 (l : List SortField) (m fan : Int) : Bool := ((((!(valid l)) || decide (m < 1)) || decide ((1024 : Int) < m)) || decide (fan < 2)) || decide ((16 : Int) < fan)
abbrev g2 (rs : List Bytes) : Bool := decide ((1024 : Int) < ((rs.length : Nat) : Int)) || long rs
def sortV (l : List SortField) (m fan : Int) (fi : Bytes → Bytes × Bool) (fs : Bytes → Bytes → Bytes × Bool) (rs : List Bytes) : List Bytes × SortWork × Int :=
  if g1 l m fan = true then ([], ⟨0, 0, 0⟩, 1)
  else if g2 rs = true then ([], ⟨0, 0, 0⟩, 8)
  else if (inR fi rs).2.2 ≠ 0 then ([], ⟨0, 0, 0⟩, (inR fi rs).2.2)
  else if (sums (cmpL l) fs [] (Srt.srt (cmpL l) (inR fi rs).1)).2 ≠ 0 then ([], ⟨0, 0, 0⟩, (sums (cmpL l) fs [] (Srt.srt (cmpL l) (inR fi rs).1)).2)
  else ((sums (cmpL l) fs [] (Srt.srt (cmpL l) (inR fi rs).1)).1, ⟨((Srt.runs (cmpL l) m.toNat (inR fi rs).1).length : Int), ((Srt.rounds (cmpL l) fan.toNat (Srt.runs (cmpL l) m.toNat (inR fi rs).1)).2 : Int), (rs.length : Int) - ((sums (cmpL l) fs [] (Srt.srt (cmpL l) (inR fi rs).1)).1.length : Int)⟩, 0)
section
variable {l : List SortField} {m fan : Int} {fi : Bytes → Bytes × Bool} {fs : Bytes → Bytes → Bytes × Bool} {rs : List Bytes}
theorem sv_1 (h : g1 l m fan = true) : ([], SortWork.mk 0 0 0, (1 : Int)) = sortV l m fan fi fs rs := by unfold sortV; rw [if_pos h]
theorem sv_2 (h : g1 l m fan = false) (h2 : g2 rs = true) : ([], SortWork.mk 0 0 0, (8 : Int)) = sortV l m fan fi fs rs := by unfold sortV; rw [if_neg (by rw [h]; decide), if_pos h2]
theorem inR_drop {inn : List Bytes} {n e : Int} (h3 : (inn, n, e) = inR fi rs) (he : ¬ e ≠ 0) : n = (rs.length : Int) - (inn.length : Int) := by
  unfold inR at h3
  cases hi : inputs fi rs with
  | none => rw [hi] at h3; cases h3; exact absurd (by decide) he
  | some out => rw [hi] at h3; cases h3; rfl
theorem sv_5 {inn : List Bytes} {n e e2 : Int} {out sorted : List Bytes} {n1 n2 : Nat} {d : Int} (h : g1 l m fan = false) (h2 : g2 rs = false) (h3 : (inn, n, e) = inR fi rs) (he : ¬ e ≠ 0) (hs : sorted = Srt.srt (cmpL l) inn) (h4 : (out, e2) = sums (cmpL l) fs [] sorted) (he2 : ¬ e2 ≠ 0)
    (hn1 : n1 = (Srt.runs (cmpL l) m.toNat inn).length) (hn2 : (Srt.rounds (cmpL l) fan.toNat (Srt.runs (cmpL l) m.toNat inn)).2 = n2) (hd : d = n + ((sorted.length : Int) - (out.length : Int))) : (out, SortWork.mk (n1 : Int) (n2 : Int) d, (0 : Int)) = sortV l m fan fi fs rs := by
  have hlen : sorted.length = inn.length := by rw [hs, Srt.srt_len]
  have hn := inR_drop h3 he
  subst hs
  unfold sortV; rw [if_neg (by rw [h]; decide), if_neg (by rw [h2]; decide), ← h3, if_neg he, ← h4, if_neg he2, hn1, hn2]
  have : d = (rs.length : Int) - (out.length : Int) := by omega
  rw [this]
end
section
variable {fi : Bytes → Bytes × Bool} {c : Bytes → Bytes → Int} {fs : Bytes → Bytes → Bytes × Bool} {rs inn out : List Bytes} {n e : Int}
end
def idF (s : Bytes) : Bytes × Bool := (s, true)
def noF (_ _ : Bytes) : Bytes × Bool := ([], false)
theorem inputs_id : ∀ {l : List Bytes}, (∀ x ∈ l, x.length ≤ 1000) → inputs idF l = some l
  | [], _ => rfl
  | s :: r, h => by
    have hs := h s List.mem_cons_self
    show (if (true : Bool) = true then (if 1000 < s.length then none else (inputs idF r).map fun l => s :: l) else inputs idF r) = _
    rw [if_pos rfl, if_neg (by omega), inputs_id fun x hx => h x (List.mem_cons_of_mem _ hx)]; rfl
theorem inR_id {rs : List Bytes} (h : g2 rs = false) : (rs, (0 : Int), (0 : Int)) = inR idF rs := by
  unfold g2 at h
  have h2 := (Bool.or_eq_false_iff.1 h).2
  have := inR_end (f := idF) (rs := rs) (inputs_id fun x hx => by
    obtain ⟨i, hi, e⟩ := getD_ex (d := []) hx
    rw [← e]; exact long_facts h2 i)
  rwa [Int.sub_self] at this
theorem sums_no {c : Bytes → Bytes → Int} {l : List Bytes} : (l, (0 : Int)) = sums c noF [] l := by
  rw [sums_nil (fun _ _ => rfl)]; rfl
theorem one_row {l : List SortField} {m fan : Nat} {inn : List Bytes} {rws : List Rw} {np : Nat} (hm : 0 < m) (hf : 2 ≤ fan) (h : PassJ (cmpL l) fan (Srt.runs (cmpL l) m inn) (rws.map Rw.s) np) (hl : ¬ 1 < rws.length) : (rws.getD 0 default).s = Srt.srt (cmpL l) inn ∧ (Srt.rounds (cmpL l) fan (Srt.runs (cmpL l) m inn)).2 = np := by
  have h1 := h.done (by rw [List.length_map]; exact hl)
  have h2 := Srt.sorts (cmpL_ok l) hm hf inn
  rw [h1.1, map_at] at h2
  exact ⟨h2.2, h1.2⟩
theorem one_none {l : List SortField} {rws : List Rw} {inn : List Bytes} (h0 : ¬ 0 < rws.length) (h : (rws.getD 0 default).s = Srt.srt (cmpL l) inn) : [] = Srt.srt (cmpL l) inn := by
  rw [← h, getD_out (by omega)]; rfl
theorem runsV_yes {l : List SortField} {m : Int} {rs : List Bytes} {X : List (List Bytes)} (hm : 1 ≤ m) (hv : valid l = true) (h : X = runsV l m rs) : X = Srt.runs (cmpL l) m.toNat rs := by rw [h]; unfold runsV; rw [if_pos ⟨hm, hv⟩]
theorem g1_facts {l : List SortField} {m fan : Int} (h : g1 l m fan = false) : valid l = true ∧ 1 ≤ m ∧ m ≤ 1024 ∧ 2 ≤ fan ∧ fan ≤ 16 := by
  unfold g1 at h
  simp only [Bool.or_eq_false_iff, decide_eq_false_iff_not, Bool.not_eq_false'] at h
  refine ⟨h.1.1.1.1, by omega, by omega, by omega, by omega⟩
end R44
end Go.Proofs.YtnfglkgahlaofaaGreatDoor

namespace Go.Proofs.YtnfglkgahlaofaaGreatDoor
open Go.GV
namespace R44
open Srt (Cmp)
section
variable {c : Bytes → Bytes → Int} {f : Bytes → Bytes → Bytes × Bool} {out l : List Bytes} {k : Nat} {R : List Bytes × Int}
end
section
variable {l : List SortField} {m : Int} {kf : Nat} {fi : Bytes → Bytes × Bool} {fs : Bytes → Bytes → Bytes × Bool} {rs inn out : List Bytes}
end
end R44
end Go.Proofs.YtnfglkgahlaofaaGreatDoor

namespace Go.Proofs.YtnfglkgahlaofaaGreatDoor
open Go.GV
namespace R44
theorem dec_lenI (n : Int) (h : n ≤ 9223372036854775807) : (Lib.decDigits n.toNat).length ≤ 19 := dec_len19 (by omega)
theorem wordsGo_len : ∀ (l cur : Bytes), ∀ x ∈ wordsGo cur l, x.length ≤ cur.length + l.length
  | [], cur, x, hx => by
    rw [wordsGo] at hx; split at hx
    · cases hx
    · rw [List.mem_singleton.1 hx]; simp
  | c :: r, cur, x, hx => by
    rw [wordsGo] at hx; rw [List.length_cons]
    split at hx
    · split at hx
      · have := wordsGo_len r [] x hx; simp at this; omega
      · rcases List.mem_cons.1 hx with rfl | hx
        · omega
        · have := wordsGo_len r [] x hx; simp at this; omega
    · have := wordsGo_len r _ x hx; simp at this; omega
theorem words_len (s : Bytes) (i : Nat) : ((words s).getD i []).length ≤ s.length := by
  by_cases h : i < (words s).length
  · have := wordsGo_len s [] _ (getD_mem (d := []) h); rw [List.length_nil, Nat.zero_add] at this; exact this
  · rw [List.getD_eq_getElem?_getD, List.getElem?_eq_none (by omega)]; exact Nat.zero_le _
theorem wordsGo_count : ∀ (l cur : Bytes), (wordsGo cur l).length ≤ l.length + 1
  | [], cur => by rw [wordsGo]; split <;> simp
  | c :: r, cur => by
    rw [wordsGo, List.length_cons]
    split
    · split
      · have := wordsGo_count r []; omega
      · rw [List.length_cons]; have := wordsGo_count r []; omega
    · have := wordsGo_count r (cur ++ [c]); omega
theorem words_count (s : Bytes) : (words s).length ≤ s.length + 1 := wordsGo_count s []
theorem rw_bd {W : List Bytes} {s : Bytes} (h : W = words s) : W.length ≤ s.length + 1 ∧ (W.getD 0 []).length ≤ s.length ∧ (W.getD 1 []).length ≤ s.length ∧ ((W.drop 2).getD 0 []).length ≤ s.length ∧ (((W.drop 2).drop 1).getD 0 []).length ≤ s.length := by
  subst h
  have e : ∀ k, ((words s).drop k).getD 0 [] = (words s).getD k [] := fun k => by rw [List.getD_eq_getElem?_getD, List.getElem?_drop, List.getD_eq_getElem?_getD]; rfl
  rw [List.drop_drop, e, e]
  exact ⟨words_count s, words_len s 0, words_len s 1, words_len s 2, words_len s (2 + 1)⟩
theorem splitGo_len (b : UInt8) : ∀ (l cur : Bytes), ∀ x ∈ splitGo b cur l, x.length ≤ cur.length + l.length
  | [], cur, x, hx => by rw [splitGo] at hx; rw [List.mem_singleton.1 hx]; simp
  | c :: r, cur, x, hx => by
    rw [splitGo] at hx; rw [List.length_cons]
    split at hx
    · rcases List.mem_cons.1 hx with rfl | hx
      · omega
      · have := splitGo_len b r [] x hx; simp at this; omega
    · have := splitGo_len b r _ x hx; simp at this; omega
theorem splitC_len (b : UInt8) (s : Bytes) (i : Nat) : ((splitC b s).getD i []).length ≤ s.length := by
  by_cases h : i < (splitC b s).length
  · have := splitGo_len b s [] _ (getD_mem (d := []) h); rw [List.length_nil, Nat.zero_add] at this; exact this
  · rw [List.getD_eq_getElem?_getD, List.getElem?_eq_none (by omega)]; exact Nat.zero_le _
theorem splitGo_count (b : UInt8) : ∀ (l cur : Bytes), (splitGo b cur l).length ≤ l.length + 1
  | [], cur => by rw [splitGo]; simp
  | c :: r, cur => by
    rw [splitGo, List.length_cons]
    split
    · rw [List.length_cons]; have := splitGo_count b r []; omega
    · have := splitGo_count b r (cur ++ [c]); omega
theorem splitC_count (b : UInt8) (s : Bytes) : (splitC b s).length ≤ s.length + 1 := splitGo_count b s []
def SplJ (b : UInt8) (s : Bytes) (k : Nat) (out : List Bytes) : Prop := ∃ pre cur, out = pre ++ [cur] ∧ splitC b s = pre ++ splitGo b cur (s.drop k)
section
variable {b : UInt8} {s : Bytes} {k : Nat} {out : List Bytes}
theorem SplJ.start : SplJ b s 0 [[]] := ⟨[], [], rfl, rfl⟩
theorem SplJ.ne (h : SplJ b s k out) : 0 < out.length := by obtain ⟨pre, cur, rfl, _⟩ := h; simp
theorem SplJ.cut (h : SplJ b s k out) (hk : k < s.length) (hb : s.getD k 0 = b) : SplJ b s (k + 1) (out ++ [[]]) := by
  obtain ⟨pre, cur, rfl, h2⟩ := h
  refine ⟨pre ++ [cur], [], rfl, ?_⟩
  rw [h2, drop_cons (d := 0) hk, splitGo, if_pos hb]; simp
theorem SplJ.add (h : SplJ b s k out) (hk : k < s.length) (hb : ¬ s.getD k 0 = b) : SplJ b s (k + 1) (out.set (out.length - 1) (out.getD (out.length - 1) [] ++ sub s k (k + 1))) := by
  obtain ⟨pre, cur, rfl, h2⟩ := h
  refine ⟨pre, cur ++ [s.getD k 0], ?_, ?_⟩
  · rw [List.length_append, List.length_singleton, Nat.add_sub_cancel, List.set_append_right _ _ (Nat.le_refl _), Nat.sub_self, List.getD_eq_getElem?_getD, List.getElem?_append_right (Nat.le_refl _), Nat.sub_self, sub_snoc (Nat.le_refl k) hk, sub_none]; rfl
  · rw [h2, drop_cons (d := 0) hk, splitGo, if_neg hb]
theorem SplJ.done (h : SplJ b s k out) (hk : s.length ≤ k) : out = splitC b s := by
  obtain ⟨pre, cur, rfl, h2⟩ := h
  rw [h2, List.drop_of_length_le hk]; rfl
theorem SplJ.short (h : SplJ b s k out) (i : Nat) : (out.getD i []).length ≤ s.length := by
  obtain ⟨pre, cur, rfl, h2⟩ := h
  have key : ∀ x ∈ pre ++ [cur], x.length ≤ s.length := by
    intro x hx
    rcases List.mem_append.1 hx with hx | hx
    · have := splitGo_len b s [] x (by show x ∈ splitC b s; rw [h2]; exact List.mem_append_left _ hx)
      simpa using this
    · rw [List.mem_singleton.1 hx]
      have h3 : (splitGo b cur (s.drop k)).getD 0 [] ∈ splitC b s := by
        rw [h2]
        exact List.mem_append_right _ (getD_mem (List.length_pos_iff.2 (splitGo_ne b _ _)))
      have h4 := splitGo_len b s [] _ h3
      have h5 : cur.length ≤ ((splitGo b cur (s.drop k)).getD 0 []).length := by
        rw [splitGo_pre]
        cases hs : splitGo b [] (s.drop k) with
        | nil => exact absurd hs (splitGo_ne b _ _)
        | cons y r => simp
      rw [List.length_nil, Nat.zero_add] at h4; omega
  by_cases hi : i < (pre ++ [cur]).length
  · exact key _ (getD_mem hi)
  · rw [List.getD_eq_getElem?_getD, List.getElem?_eq_none (by omega)]; exact Nat.zero_le _
theorem SplJ.few (h : SplJ b s k out) : out.length ≤ s.length + 1 := by
  obtain ⟨pre, cur, rfl, h2⟩ := h
  have := splitC_count b s
  rw [h2, List.length_append] at this
  have := List.length_pos_iff.2 (splitGo_ne b (s.drop k) cur)
  rw [List.length_append, List.length_singleton]; omega
end
def ixFrom : List Bytes → Bytes → Nat → Int
  | [], _, _ => -1
  | x :: r, v, k => if x = v then (k : Int) else ixFrom r v (k + 1)
def ixOf (xs : List Bytes) (v : Bytes) : Int := ixFrom xs v 0
theorem ix_go {xs : List Bytes} {v : Bytes} {k : Nat} (hk : k < xs.length) (h : ixFrom (xs.drop k) v k = ixOf xs v) (hn : ¬ v = xs.getD k []) : ixFrom (xs.drop (k + 1)) v (k + 1) = ixOf xs v := by
  rw [← h, drop_cons (d := []) hk, ixFrom, if_neg (fun e => hn e.symm)]
theorem ix_hit {xs : List Bytes} {v : Bytes} {k : Nat} (hk : k < xs.length) (h : ixFrom (xs.drop k) v k = ixOf xs v) (he : v = xs.getD k []) : ((k : Nat) : Int) = ixOf xs v := by
  rw [← h, drop_cons (d := []) hk, ixFrom, if_pos he.symm]
theorem ix_end {xs : List Bytes} {v : Bytes} {k : Nat} (hk : xs.length ≤ k) (h : ixFrom (xs.drop k) v k = ixOf xs v) : -1 = ixOf xs v := by
  rw [← h, List.drop_of_length_le hk]; rfl
theorem ixFrom_bd : ∀ (xs : List Bytes) (v : Bytes) (k : Nat), ixFrom xs v k = -1 ∨ ((k : Int) ≤ ixFrom xs v k ∧ ixFrom xs v k < (k : Int) + xs.length)
  | [], _, _ => .inl rfl
  | x :: r, v, k => by
    rw [ixFrom]; split
    · right; rw [List.length_cons]; omega
    · rcases ixFrom_bd r v (k + 1) with h | h
      · exact .inl h
      · right; rw [List.length_cons]; omega
theorem ixOf_bd (xs : List Bytes) (v : Bytes) : -1 ≤ ixOf xs v ∧ ixOf xs v < xs.length := by
  have h := ixFrom_bd xs v 0
  unfold ixOf; omega
abbrev KS : List Bytes := [[116, 101, 120, 116], [110, 117, 109, 98, 101, 114], [98, 105, 110, 97, 114, 121]]
abbrev DS : Bytes := [100, 101, 115, 99, 101, 110, 100, 105, 110, 103]
def kindOf (R : List Bytes) : Int × List Bytes := if (decide ((0 : Int) < ((R.length : Nat) : Int)) && decide (0 ≤ ixOf KS (R.getD 0 []))) = true then (([0, 1, 2] : List Int).getD (ixOf KS (R.getD 0 [])).toNat 0, R.drop 1) else (0, R)
def descOf (R : List Bytes) : Bool × List Bytes := if (decide ((0 : Int) < ((R.length : Nat) : Int)) && decide (R.getD 0 [] = DS)) = true then (true, R.drop 1) else (false, R)
def fieldW (W : List Bytes) : Option SortField :=
  if 2 ≤ W.length then
    (match numV (W.getD 0 []), numV (W.getD 1 []) with
     | some a, some n => if (descOf (kindOf (W.drop 2)).2).2 = [] then some ⟨(a : Int), (n : Int), (kindOf (W.drop 2)).1, (descOf (kindOf (W.drop 2)).2).1⟩ else none
     | _, _ => none)
  else none
def fieldsW : List Bytes → Option (List SortField)
  | [] => some []
  | p :: r => match fieldW (words p) with
    | none => none
    | some f => (fieldsW r).map fun l => f :: l
def parseV (s : Bytes) : List SortField × Int := if words s = [] then ([], 0) else match fieldsW (splitC 44 s) with
  | none => ([], 3)
  | some l => if valid l = true then (l, 0) else ([], 1)
def FldJ (ps : List Bytes) (k : Nat) (out : List SortField) : Prop := fieldsW ps = (fieldsW (ps.drop k)).map fun l => out ++ l
section
variable {ps : List Bytes} {k : Nat} {out : List SortField} {s : Bytes}
theorem FldJ.start : FldJ ps 0 [] := by
  show fieldsW ps = (fieldsW ps).map fun l => [] ++ l
  cases fieldsW ps <;> rfl
theorem FldJ.add (h : FldJ ps k out) (hk : k < ps.length) {f : SortField} (hf : fieldW (words (ps.getD k [])) = some f) : FldJ ps (k + 1) (out ++ [f]) := by
  unfold FldJ at *
  rw [h, drop_cons (d := []) hk, fieldsW, hf]
  cases fieldsW (ps.drop (k + 1)) <;> simp
theorem FldJ.bad (h : FldJ (splitC 44 s) k out) (hs : words s ≠ []) (hk : k < (splitC 44 s).length) (hf : fieldW (words ((splitC 44 s).getD k [])) = none) : (([] : List SortField), (3 : Int)) = parseV s := by
  unfold FldJ at h
  rw [drop_cons (d := []) hk, fieldsW, hf] at h
  unfold parseV; rw [if_neg hs, h]; rfl
theorem FldJ.done (h : FldJ (splitC 44 s) k out) (hs : words s ≠ []) (hk : (splitC 44 s).length ≤ k) : parseV s = if valid out = true then (out, 0) else ([], 1) := by
  unfold FldJ at h
  rw [List.drop_of_length_le hk] at h
  unfold parseV; rw [if_neg hs, h]
  simp [fieldsW]
theorem FldJ.yes (h : FldJ (splitC 44 s) k out) (hs : words s ≠ []) (hk : (splitC 44 s).length ≤ k) (hv : valid out = true) : (out, (0 : Int)) = parseV s := by rw [h.done hs hk, if_pos hv]
theorem FldJ.no (h : FldJ (splitC 44 s) k out) (hs : words s ≠ []) (hk : (splitC 44 s).length ≤ k) (hv : valid out = false) : (([] : List SortField), (1 : Int)) = parseV s := by rw [h.done hs hk, if_neg (by rw [hv]; decide)]
theorem parse_none (hs : words s = []) : (([] : List SortField), (0 : Int)) = parseV s := by unfold parseV; rw [if_pos hs]
variable {W : List Bytes} {n1 n2 : Int} {o1 o2 : Bool}
theorem fw_short (h : ¬ 2 ≤ W.length) : fieldW W = none := by unfold fieldW; rw [if_neg h]
theorem fw_n1 (h : o1 = false) (s1 : SmallJ (W.getD 0 []) n1 o1) : fieldW W = none := by
  unfold fieldW; split
  · rw [s1.2 h]
  · rfl
theorem fw_n2 (h : o2 = false) (s2 : SmallJ (W.getD 1 []) n2 o2) : fieldW W = none := by
  unfold fieldW; split
  · rw [s2.2 h]; cases numV (W.getD 0 []) <;> rfl
  · rfl
theorem fw_rest {kd : Int} {de : Bool} {R1 R2 : List Bytes} (hk : kindOf (W.drop 2) = (kd, R1)) (hd : descOf R1 = (de, R2)) (he : R2 ≠ []) : fieldW W = none := by
  unfold fieldW; split
  · rw [hk]; simp only; rw [hd]; simp only
    cases numV (W.getD 0 []) <;> cases numV (W.getD 1 []) <;> simp only
    rw [if_neg he]
  · rfl
theorem fw_yes {kd : Int} {de : Bool} {R1 R2 : List Bytes} (h : 2 ≤ W.length) (h1 : o1 = true) (s1 : SmallJ (W.getD 0 []) n1 o1) (h2 : o2 = true) (s2 : SmallJ (W.getD 1 []) n2 o2) (hk : kindOf (W.drop 2) = (kd, R1)) (hd : descOf R1 = (de, R2)) (he : R2 = []) : fieldW W = some ⟨n1, n2, kd, de⟩ := by
  obtain ⟨e1, p1, _⟩ := s1.1 h1
  obtain ⟨e2, p2, _⟩ := s2.1 h2
  unfold fieldW
  rw [if_pos h, e1, e2, hk]; simp only
  rw [hd]; simp only
  rw [if_pos he, Int.toNat_of_nonneg p1, Int.toNat_of_nonneg p2]
variable {R : List Bytes}
theorem kind_t (h : (decide ((0 : Int) < ((R.length : Nat) : Int)) && decide (0 ≤ ixOf KS (R.getD 0 []))) = true) : kindOf R = (([0, 1, 2] : List Int).getD (ixOf KS (R.getD 0 [])).toNat 0, R.drop 1) := if_pos h
theorem kind_f (h : (decide ((0 : Int) < ((R.length : Nat) : Int)) && decide (0 ≤ ixOf KS (R.getD 0 []))) = false) : kindOf R = (0, R) := if_neg (by rw [h]; decide)
theorem desc_t (h : (decide ((0 : Int) < ((R.length : Nat) : Int)) && decide (R.getD 0 [] = DS)) = true) : descOf R = (true, R.drop 1) := if_pos h
theorem desc_f (h : (decide ((0 : Int) < ((R.length : Nat) : Int)) && decide (R.getD 0 [] = DS)) = false) : descOf R = (false, R) := if_neg (by rw [h]; decide)
end
end R44
end Go.Proofs.YtnfglkgahlaofaaGreatDoor

namespace Go.Proofs.YtnfglkgahlaofaaGreatDoor
open Go.GV
namespace Ty
end Ty
end Go.Proofs.YtnfglkgahlaofaaGreatDoor

namespace Go.Proofs.YtnfglkgahlaofaaGreatDoor
open Go.GV Go.RowKit
namespace R44
theorem trim_swap (s : Bytes) : trimL (trimR s) = trimR (trimL s) := by
  obtain ⟨m, h1, h2, h3⟩ := trimR_split s
  rcases h3 with h3 | ⟨t, c, h3, hc⟩
  · rw [h3, List.nil_append] at h1
    have : trimL s = [] := trimL_all.2 (by rw [h1]; exact h2)
    rw [this, h3]; rfl
  · have hne : trimL (trimR s) ≠ [] := fun e => hc (trimL_all.1 e c (by rw [h3]; simp))
    have h4 : trimL s = trimL (trimR s) ++ m := by
      rw (config := { occs := .pos [1] }) [h1]
      unfold trimL
      rw [List.dropWhile_append]
      split
      · rename_i he
        rw [List.isEmpty_iff] at he
        exact absurd he hne
      · rfl
    have h5 : ∃ t', trimL (trimR s) = t' ++ [c] := by
      have hs : trimL (trimR s) <:+ trimR s := List.dropWhile_suffix _
      obtain ⟨p, hp⟩ := hs
      have hl := congrArg List.getLast? hp
      rw [h3, List.getLast?_append, List.getLast?_append] at hl
      cases hx : (trimL (t ++ [c])).getLast? with
      | none => rw [List.getLast?_eq_none_iff] at hx; rw [h3] at hne; exact absurd hx hne
      | some d =>
        rw [hx] at hl; simp at hl; subst hl
        obtain ⟨ys, hys⟩ := List.getLast?_eq_some_iff.1 hx
        exact ⟨ys, by rw [h3, hys]⟩
    obtain ⟨t', h5⟩ := h5
    rw [h4, trimR_app h2, h5, trimR_id hc]
theorem trims_len (s : Bytes) : (trimR (trimL s)).length ≤ s.length := Nat.le_trans (trimR_len _) (trimL_len _)
def cutM (s : Bytes) : Bytes × Bool := if s.head? = some 45 then (s.tail, true) else (s, false)
theorem cutM_len (s : Bytes) : (cutM s).1.length ≤ s.length := by unfold cutM; split <;> simp
theorem cutM_lib (s : Bytes) : Lib.trimPrefix s [45] = (cutM s).1 ∧ Lib.hasPrefix s [45] = (cutM s).2 := by
  unfold Lib.trimPrefix Lib.hasPrefix cutM
  cases s with
  | nil => exact ⟨rfl, rfl⟩
  | cons c t =>
    by_cases hc : c = 45
    · subst hc; simp
    · have h1 : ((45 : UInt8) == c) = false := by simp; exact fun e => hc e.symm
      have h2 : ¬ 45 = c := fun e => hc e.symm
      simp [List.isPrefixOf, hc, h2]
theorem cmpS_lib : ∀ (a b : Bytes), Lib.compareBytes a b = cmpS a b
  | [], [] => rfl
  | [], _ :: _ => rfl
  | _ :: _, [] => rfl
  | x :: a, y :: b => by
    rw [Lib.compareBytes, cmpS_lib a b]
    unfold cmpS
    by_cases h1 : x < y
    · rw [if_pos h1, if_pos (by rw [Op.bytesLess, decide_eq_true h1]; rfl)]
    · rw [if_neg h1]
      by_cases h2 : y < x
      · have hne : ¬ x = y := fun e => by subst e; exact h1 h2
        have hb : (x == y) = false := by simpa using hne
        rw [if_pos h2, if_neg (by rw [Op.bytesLess, decide_eq_false h1, hb]; simp), if_neg (fun e => hne (List.cons.inj e).1)]
      · have he : x = y := by
          rw [UInt8.lt_iff_toNat_lt] at h1 h2
          exact UInt8.toNat_inj.1 (by omega)
        subst he
        have hl : Op.bytesLess (x :: a) (x :: b) = Op.bytesLess a b := by rw [Op.bytesLess, decide_eq_false h1]; simp
        rw [if_neg h2, hl]
        by_cases h3 : a = b
        · subst h3; rw [if_pos rfl, if_pos rfl]
        · rw [if_neg h3, if_neg (fun e => h3 (List.cons.inj e).2)]
theorem dec_cut (s : Bytes) : dec s = if (cutM (trimR (trimL s))).1 = [] then none else (num (cutM (trimR (trimL s))).1 0).map fun n => if (cutM (trimR (trimL s))).2 = true then -n else n := by
  unfold dec cutM
  split
  · simp
  · split <;> simp
theorem dec_none {s : Bytes} (h : (cutM (trimR (trimL s))).1 = []) : dec s = none := by rw [dec_cut, if_pos h]
theorem dec_bad {s : Bytes} (h : num (cutM (trimR (trimL s))).1 0 = none) : dec s = none := by rw [dec_cut, h]; simp
theorem dec_pos' {s : Bytes} {n : Int} (h0 : (cutM (trimR (trimL s))).1 ≠ []) (h : num (cutM (trimR (trimL s))).1 0 = some n) (h2 : (cutM (trimR (trimL s))).2 = false) : dec s = some n := by rw [dec_cut, if_neg h0, h, h2]; rfl
theorem dec_neg' {s : Bytes} {n : Int} (h0 : (cutM (trimR (trimL s))).1 ≠ []) (h : num (cutM (trimR (trimL s))).1 0 = some n) (h2 : (cutM (trimR (trimL s))).2 = true) : dec s = some (-n) := by rw [dec_cut, if_neg h0, h, h2]; rfl
end R44
theorem trim_ok (s : Bytes) (w : World) (q0 : s.length ≤ 9223372036854775807) : Calls Tryz.prog 97 #[vS s, vS [32]] w (Gives [] w fun v L => v = vS (R44.trimR (R44.trimL s)) ∧ L = []) := by
  refine (Tryz.strings_Trim_one ⟨s.toArray⟩ 32 (by decide) w q0).mono ?_
  rintro e w' ⟨rfl, h⟩
  refine ⟨_, _, rfl, ⟨?_, rfl⟩, St.nil ?_⟩
  · show vS (R44.trimL (R44.trimR s)) = _
    rw [R44.trim_swap]
  · rcases h with rfl | rfl
    · exact Fr.refl _ _
    · exact Fr.drew _ _
theorem cutp_ok (s : Bytes) (w : World) : Calls Tryz.prog 98 #[vS s, vS [45]] w (Gives [] w fun v L => v = .tuple #[vS (R44.cutM s).1, vB (R44.cutM s).2] ∧ L = []) := by
  refine (Tryz.strings_CutPrefix ⟨s.toArray⟩ ⟨#[45]⟩ w).mono ?_
  rintro e w' ⟨rfl, rfl⟩
  refine ⟨_, _, rfl, ⟨?_, rfl⟩, St.nil (Fr.refl _ _)⟩
  show Value.tuple #[vS (Lib.trimPrefix s [45]), vB (Lib.hasPrefix s [45])] = _
  rw [(R44.cutM_lib s).1, (R44.cutM_lib s).2]
theorem scmp_ok (a b : Bytes) (w : World) : Calls Tryz.prog 87 #[vS a, vS b] w (Gives [] w fun v L => v = vI (R44.cmpS a b) ∧ L = []) := by
  refine (Tryz.strings_Compare ⟨a.toArray⟩ ⟨b.toArray⟩ w).mono ?_
  rintro e w' ⟨rfl, rfl⟩
  refine ⟨_, _, rfl, ⟨?_, rfl⟩, St.nil (Fr.refl _ _)⟩
  show vI (Lib.compareBytes a b) = _
  rw [R44.cmpS_lib]
end Go.Proofs.YtnfglkgahlaofaaGreatDoor
