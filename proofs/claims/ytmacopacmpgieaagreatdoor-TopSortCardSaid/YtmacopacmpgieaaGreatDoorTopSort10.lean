/- Pl44f, Pl44g, Pl44h, Pl44i, Pl44j, Pl44k, Cb, GvL, Pd44 in one text. -/
import Derived.Test.YtmacopacmpgieaaGreatDoorTopSort9
import Derived.Test.YtmacopacmpgieaaGreatDoorTopSort6
import Derived.Test.YtmacopacmpgieaaGreatDoorTopSort8
set_option linter.unusedVariables false
set_option linter.unusedSimpArgs false
namespace Go.Proofs.YtmacopacmpgieaaGreatDoor
open Go.GV
namespace R44
open Srt (Cmp)
variable {c : Bytes → Bytes → Int}
def mergeV (l : List SortField) (ls : List (List Bytes)) : List Bytes := if valid l = true then Srt.merge (cmpL l) ls else []
theorem mergeV_no {l : List SortField} {ls : List (List Bytes)} (h : valid l = false) : [] = mergeV l ls := by unfold mergeV; rw [h]; rfl
theorem inner_len {lists : List Rw} (k : Nat) : (lists.getD k default).s.length ≤ (lists.map Rw.s).flatten.length := by
  by_cases hk : k < lists.length
  · rw [← map_at]
    exact (List.sublist_flatten_of_mem (getD_mem (d := []) (by rw [List.length_map]; exact hk))).length_le
  · rw [getD_out (by omega)]; exact Nat.zero_le _
def BI (c : Bytes → Bytes → Int) (ls : List (List Bytes)) (k : Nat) (b : Int) : Prop := b = match Srt.best c ls k with | some i => (i : Int) | none => -1
section
variable {ls : List (List Bytes)} {k : Nat} {b : Int}
theorem BI.zero : BI c ls 0 (-1) := rfl
theorem BI.some_ (h : BI c ls k b) (h0 : 0 ≤ b) : Srt.best c ls k = some b.toNat := by
  unfold BI at h
  cases hb : Srt.best c ls k with
  | none => rw [hb] at h; simp only at h; omega
  | some i => rw [hb] at h; simp only at h; rw [h]; rfl
theorem BI.none_ (h : BI c ls k b) (h0 : b < 0) : Srt.best c ls k = none := by
  unfold BI at h
  cases hb : Srt.best c ls k with
  | none => rfl
  | some i => rw [hb] at h; simp only at h; omega
theorem BI.bd (hc : Cmp c) (h : BI c ls k b) : -1 ≤ b ∧ b < (k : Int) := by
  have hs := Srt.best_spec hc ls k
  unfold BI at h
  cases hb : Srt.best c ls k with
  | none => rw [hb] at h; simp only at h; omega
  | some i => rw [hb] at h hs; simp only at h; have := hs.1; omega
theorem BI.head (hc : Cmp c) (h : BI c ls k b) (h0 : 0 ≤ b) : ls.getD b.toNat [] ≠ [] := by
  have hs := Srt.best_spec hc ls k
  rw [h.some_ h0] at hs
  obtain ⟨_, x, r, h2, _⟩ := hs
  rw [h2]; exact List.cons_ne_nil _ _
theorem BI.skip (h : BI c ls k b) (hk : ls.getD k [] = []) : BI c ls (k + 1) b := by unfold BI at *; rw [Srt.best_nil hk]; exact h
theorem BI.new (h : BI c ls k b) (h0 : b < 0) {x : Bytes} {r : List Bytes} (hk : ls.getD k [] = x :: r) : BI c ls (k + 1) (k : Int) := by
  have := h.none_ h0
  unfold BI; rw [Srt.best_new hk this]
theorem BI.lt (h : BI c ls k b) (h0 : 0 ≤ b) {x y : Bytes} {r s : List Bytes} (hk : ls.getD k [] = x :: r) (hb : ls.getD b.toNat [] = y :: s) (hlt : c x y < 0) : BI c ls (k + 1) (k : Int) := by
  have := h.some_ h0
  unfold BI; rw [Srt.best_lt hk this hb hlt]
theorem BI.ge (h : BI c ls k b) (h0 : 0 ≤ b) {x y : Bytes} {r s : List Bytes} (hk : ls.getD k [] = x :: r) (hb : ls.getD b.toNat [] = y :: s) (hlt : ¬ c x y < 0) : BI c ls (k + 1) b := by
  have h1 := h.some_ h0
  unfold BI; rw [Srt.best_ge hk h1 hb hlt]; simp only; omega
end
def MergeJ (c : Bytes → Bytes → Int) (ls : List (List Bytes)) (out : List Bytes) (rest : List (List Bytes)) : Prop := out ++ Srt.merge c rest = Srt.merge c ls ∧ out.length + rest.flatten.length = ls.flatten.length
section
variable {ls rest : List (List Bytes)} {out : List Bytes} {b : Int}
theorem MergeJ.start : MergeJ c ls [] ls := ⟨rfl, by simp⟩
theorem MergeJ.less {b : Nat} {x : Bytes} {r : List Bytes} (_h : MergeJ c ls out rest) (hx : rest.getD b [] = x :: r) : (rest.set b r).flatten.length < rest.flatten.length := by
  have := Srt.set_total hx
  unfold Srt.total at this; omega
theorem MergeJ.step (h : MergeJ c ls out rest) (hb : BI c rest rest.length b) (h0 : 0 ≤ b) {x : Bytes} {r : List Bytes} (hx : rest.getD b.toNat [] = x :: r) : MergeJ c ls (out ++ [x]) (rest.set b.toNat r) := by
  refine ⟨?_, ?_⟩
  · rw [← h.1, Srt.merge_some (hb.some_ h0) hx]; simp
  · have := Srt.set_total hx
    have := h.2
    unfold Srt.total at *
    rw [List.length_append, List.length_singleton]; omega
theorem MergeJ.done (h : MergeJ c ls out rest) (hb : BI c rest rest.length b) (h0 : b < 0) : out = Srt.merge c ls := by
  rw [← h.1, Srt.merge_none (hb.none_ h0), List.append_nil]
end
def AtOk (lists : List Rw) (ats : List Int) : Prop := ats.length = lists.length ∧ ∀ k, 0 ≤ ats.getD k 0 ∧ ats.getD k 0 ≤ ((lists.getD k default).s.length : Int)
def rest (lists : List Rw) (ats : List Int) : List (List Bytes) := (List.range lists.length).map fun k => (lists.getD k default).s.drop (ats.getD k 0).toNat
section
variable {lists : List Rw} {ats : List Int} {k : Nat}
end
end R44
end Go.Proofs.YtmacopacmpgieaaGreatDoor

namespace Go.Proofs.YtmacopacmpgieaaGreatDoor
open Go.GV
namespace R44
open Srt (Cmp)
section
variable {c : Bytes → Bytes → Int} {rest lists : List Rw} {k : Nat} {b : Int}
theorem set_getW {x : Rw} {j i : Nat} : (rest.set j x).getD i default = if j = i ∧ j < rest.length then x else rest.getD i default := by
  rw [List.getD_eq_getElem?_getD, List.getElem?_set]
  by_cases h : j = i
  · subst h
    by_cases h2 : j < rest.length
    · rw [if_pos rfl, if_pos h2, if_pos ⟨rfl, h2⟩]; rfl
    · rw [if_pos rfl, if_neg h2, if_neg (fun h => h2 h.2), List.getD_eq_getElem?_getD, List.getElem?_eq_none (by omega)]
  · rw [if_neg h, if_neg (fun h2 => h h2.1), ← List.getD_eq_getElem?_getD]
theorem ron_set {S : List Nat} {w : World} (h : ∀ i : Nat, RO S w (rest.getD i default).sA ((rest.getD i default).s.map vS)) {j : Nat} {x : Rw} (hx : RO S w x.sA (x.s.map vS)) (i : Nat) : RO S w ((rest.set j x).getD i default).sA (((rest.set j x).getD i default).s.map vS) := by
  rw [set_getW]; split
  · exact hx
  · exact h i
theorem cap_set (h : ∀ i : Nat, (rest.getD i default).s.length ≤ (rest.getD i default).sC) {j : Nat} {A : Option Addr} (i : Nat) : ((rest.set j (Rw.mk ((rest.getD j default).s.drop 1) A ((rest.getD j default).sC - 1))).getD i default).s.length ≤ ((rest.set j (Rw.mk ((rest.getD j default).s.drop 1) A ((rest.getD j default).sC - 1))).getD i default).sC := by
  rw [set_getW]; split
  · show ((rest.getD j default).s.drop 1).length ≤ (rest.getD j default).sC - 1
    have := h j
    rw [List.length_drop]; omega
  · exact h i
theorem rw_nil (h : (rest.getD k default).s.length ≤ 0) : (rest.map Rw.s).getD k [] = [] := by
  rw [map_at]; exact List.length_eq_zero_iff.1 (by omega)
theorem rw_cons (h : 0 < (rest.getD k default).s.length) : (rest.map Rw.s).getD k [] = (rest.getD k default).s.getD 0 [] :: (rest.getD k default).s.drop 1 := by
  rw [map_at]; exact drop_cons (d := []) (k := 0) h
def Subs (lists rest : List Rw) : Prop := ∀ k, ∃ j, (rest.getD k default).s = (lists.getD k default).s.drop j
theorem Subs.start : Subs lists lists := fun _ => ⟨0, rfl⟩
theorem Subs.step (h : Subs lists rest) (b : Nat) (A : Option Addr) (C : Nat) : Subs lists (rest.set b (Rw.mk ((rest.getD b default).s.drop 1) A C)) := fun k => by
  rw [set_getW]
  split
  · rename_i h1
    obtain ⟨j, hj⟩ := h k
    refine ⟨j + 1, ?_⟩
    rw [h1.1]
    show (rest.getD k default).s.drop 1 = _
    rw [hj, List.drop_drop]
  · exact h k
theorem Subs.short (h : Subs lists rest) {n : Nat} (hq : ∀ i j, ((lists.getD i default).s.getD j []).length ≤ n) (k j : Nat) : ((rest.getD k default).s.getD j []).length ≤ n := by
  obtain ⟨i, hi⟩ := h k
  rw [hi, List.getD_eq_getElem?_getD, List.getElem?_drop, ← List.getD_eq_getElem?_getD]; exact hq k _
theorem posS (hb : BI c (rest.map Rw.s) k b) (hc : Cmp c) (hk : k ≤ rest.length) : -1 ≤ b ∧ b < (k : Int) ∧ (0 ≤ b → b.toNat < rest.length ∧ 0 < (rest.getD b.toNat default).s.length) := by
  have h1 := hb.bd hc
  refine ⟨h1.1, h1.2, fun h0 => ⟨by omega, ?_⟩⟩
  have h2 := hb.head hc h0
  rw [map_at] at h2
  exact List.length_pos_iff.2 h2
theorem set_drop {j : Nat} {x : Rw} : (rest.set j x).map Rw.s = (rest.map Rw.s).set j x.s := List.map_set
section
variable {ls : List (List Bytes)} {out : List Bytes}
theorem mj_yield (h : MergeJ c ls out (rest.map Rw.s)) (hb : BI c (rest.map Rw.s) k b) (hk : k = rest.length) (h0 : 0 ≤ b) (hl : 0 < (rest.getD b.toNat default).s.length) : Srt.merge c ls = out ++ (rest.getD b.toNat default).s.getD 0 [] :: Srt.merge c ((rest.map Rw.s).set b.toNat ((rest.getD b.toNat default).s.drop 1)) := by
  have hb2 := hb.some_ h0
  rw [← h.1, Srt.merge_some (by rw [List.length_map, ← hk]; exact hb2) (rw_cons hl)]
theorem mj_step (hc : Cmp c) (h : MergeJ c ls out (rest.map Rw.s)) (hb : BI c (rest.map Rw.s) k b) (hk : k = rest.length) (h0 : 0 ≤ b) {A : Option Addr} {C : Nat} : MergeJ c ls (out ++ [(rest.getD b.toNat default).s.getD 0 []]) ((rest.set b.toNat (Rw.mk ((rest.getD b.toNat default).s.drop 1) A C)).map Rw.s) := by
  have hp := (posS hb hc (by omega)).2.2 h0
  rw [set_drop]
  exact h.step (by rw [List.length_map, ← hk]; exact hb) h0 (rw_cons hp.2)
theorem mj_less {A : Option Addr} {C : Nat} (h0 : 0 ≤ b) (h : 0 ≤ b → b.toNat < rest.length ∧ 0 < (rest.getD b.toNat default).s.length) : ((rest.set b.toNat (Rw.mk ((rest.getD b.toNat default).s.drop 1) A C)).map Rw.s).flatten.length < (rest.map Rw.s).flatten.length := by
  have := Srt.set_total (rw_cons (h h0).2)
  unfold Srt.total at this
  rw [set_drop]
  show ((rest.map Rw.s).set b.toNat ((rest.getD b.toNat default).s.drop 1)).flatten.length < _
  omega
theorem mj_done (h : MergeJ c ls out (rest.map Rw.s)) (hb : BI c (rest.map Rw.s) k b) (hk : k = rest.length) (h0 : b < 0) : out = Srt.merge c ls :=
  h.done (by rw [List.length_map, ← hk]; exact hb) h0
end
end
theorem merge_pre {c : Bytes → Bytes → Int} (hc : Cmp c) {ls : List (List Bytes)} {n : Nat} (hn : ls.flatten.length ≤ n) {pre rest : List Bytes} {a : Bytes} (h : Srt.merge c ls = pre ++ a :: rest) : pre.length < n := by
  have h1 := (Srt.merge_perm hc ls).length_eq
  rw [h] at h1
  simp only [List.length_append, List.length_cons] at h1
  omega
theorem mergeV_yes {l : List SortField} {ls : List (List Bytes)} (h : valid l = true) : Srt.merge (cmpL l) ls = mergeV l ls := by unfold mergeV; rw [if_pos h]
end R44
end Go.Proofs.YtmacopacmpgieaaGreatDoor

namespace Go.Proofs.YtmacopacmpgieaaGreatDoor
open Go.GV
namespace R44
open Srt (Cmp)
theorem ix_yes {l : List Bytes} {k : Nat} (hk : k < l.length) (h : 1000 < (l.getD k []).length) : decide (0 ≤ ((k : Nat) : Int)) = long l := by
  rw [← long_hit hk h]; exact decide_eq_true (by omega)
theorem ix_no {l : List Bytes} (h : ∀ i, i < l.length → (l.getD i []).length ≤ 1000) : decide (0 ≤ (-1 : Int)) = long l := by rw [← long_none h]; rfl
def inR (f : Bytes → Bytes × Bool) (rs : List Bytes) : List Bytes × Int × Int := match inputs f rs with
  | some out => (out, (rs.length : Int) - (out.length : Int), 0)
  | none => ([], 0, 8)
theorem inR_end {f : Bytes → Bytes × Bool} {rs out : List Bytes} (h : inputs f rs = some out) : (out, (rs.length : Int) - (out.length : Int), 0) = inR f rs := by unfold inR; rw [h]
end R44
end Go.Proofs.YtmacopacmpgieaaGreatDoor

namespace Go.Proofs.YtmacopacmpgieaaGreatDoor
open Go.GV
structure Part where
  s : List Rw
  sA : Option Addr
  sC : Nat
deriving Inhabited
def Part.enc (a : Part) : List Value := [vL a.sA a.s.length a.sC]
namespace R44
open Srt (Cmp)
def part (n : Nat) (rws : List Rw) (A : Option Addr) (lo : Nat) : Part := ⟨(rws.drop lo).take (min n (rws.length - lo)), subA A (lo + min n (rws.length - lo)) lo 1, min n (rws.length - lo)⟩
theorem part_enc {n : Nat} {rws : List Rw} {A : Option Addr} {lo : Nat} : [vL (subA A (lo + min n (rws.length - lo)) lo 1) (min n (rws.length - lo)) (min n (rws.length - lo))] = Part.enc (part n rws A lo) := by
  show _ = [vL _ (((rws.drop lo).take (min n (rws.length - lo))).length) _]
  rw [List.length_take, List.length_drop, Nat.min_eq_left (Nat.min_le_right _ _)]; rfl
def partsN (n : Nat) (rws : List Rw) (A : Option Addr) : Nat → Nat → List Part
  | 0, _ => []
  | f + 1, lo => if lo < rws.length then part n rws A lo :: partsN n rws A f (lo + n) else []
def parts (n : Nat) (rws : List Rw) (A : Option Addr) : List Part := partsN n rws A rws.length 0
section
variable {n : Nat} {rws : List Rw} {A : Option Addr} {lo : Nat} {pre : List Part}
theorem partsN_any (hn : 1 ≤ n) : ∀ (f f' lo : Nat), rws.length - lo ≤ f → rws.length - lo ≤ f' → partsN n rws A f lo = partsN n rws A f' lo
  | 0, 0, _, _, _ => rfl
  | 0, f' + 1, lo, h, _ => by rw [partsN, partsN, if_neg (by omega)]
  | f + 1, 0, lo, _, h => by rw [partsN, partsN, if_neg (by omega)]
  | f + 1, f' + 1, lo, h, h' => by
    rw [partsN, partsN]
    split
    · rw [partsN_any hn f f' (lo + n) (by omega) (by omega)]
    · rfl
def PartJ (n : Nat) (rws : List Rw) (A : Option Addr) (pre : List Part) (lo : Nat) : Prop := pre ++ partsN n rws A rws.length lo = parts n rws A
theorem PartJ.start : PartJ n rws A [] 0 := rfl
theorem partsN_cons (hn : 1 ≤ n) (h : lo < rws.length) : partsN n rws A rws.length lo = part n rws A lo :: partsN n rws A rws.length (lo + n) := by
  obtain ⟨f, hf⟩ : ∃ f, rws.length = f + 1 := ⟨rws.length - 1, by omega⟩
  conv => lhs; rw [hf]
  rw [partsN, if_pos h, partsN_any hn f rws.length (lo + n) (by omega) (by omega)]
theorem PartJ.yield (h : PartJ n rws A pre lo) (hn : 1 ≤ n) (hl : lo < rws.length) : parts n rws A = pre ++ part n rws A lo :: partsN n rws A rws.length (lo + n) := by
  rw [← partsN_cons hn hl]; exact h.symm
theorem PartJ.step (h : PartJ n rws A pre lo) (hn : 1 ≤ n) (hl : lo < rws.length) : PartJ n rws A (pre ++ [part n rws A lo]) (lo + n) := by
  unfold PartJ; rw [h.yield hn hl]; simp
theorem PartJ.done (h : PartJ n rws A pre lo) (hl : ¬ lo < rws.length) : pre = parts n rws A := by
  rw [← h]
  have : partsN n rws A rws.length lo = [] := by
    cases rws.length with
    | zero => rfl
    | succ f => rw [partsN, if_neg (by omega)]
  rw [this, List.append_nil]
theorem partsN_mem : ∀ (f lo : Nat) {p : Part}, p ∈ partsN n rws A f lo → ∃ k, k < rws.length ∧ p = part n rws A k
  | 0, _, _, h => by cases h
  | f + 1, lo, p, h => by
    rw [partsN] at h
    split at h
    · rename_i hl
      rcases List.mem_cons.1 h with rfl | h
      · exact ⟨lo, hl, rfl⟩
      · exact partsN_mem f _ h
    · cases h
theorem part_of {p : Part} {rest : List Part} (h : parts n rws A = pre ++ p :: rest) : ∃ k, k < rws.length ∧ p = part n rws A k := partsN_mem rws.length 0 (by show p ∈ parts n rws A; rw [h]; simp)
theorem partsN_len : ∀ (f lo : Nat), (partsN n rws A f lo).length ≤ f
  | 0, _ => Nat.le_refl _
  | f + 1, lo => by
    rw [partsN]; split
    · rw [List.length_cons]; have := partsN_len f (lo + n); omega
    · exact Nat.zero_le _
theorem part_pre {p : Part} {rest : List Part} (h : parts n rws A = pre ++ p :: rest) : pre.length < rws.length := by
  have h1 : (parts n rws A).length ≤ rws.length := partsN_len _ _
  rw [h] at h1; simp at h1; omega
theorem sub_at {k m i : Nat} : ((rws.drop k).take m).getD i default = if i < m then rws.getD (k + i) default else default := by
  rw [List.getD_eq_getElem?_getD, List.getElem?_take]
  split
  · rw [List.getElem?_drop, ← List.getD_eq_getElem?_getD]
  · rfl
variable {rest : List Part} {ps : List Rw} {pA : Option Addr} {pC : Nat}
theorem part_ro {S : List Nat} {w : World} (h : parts n rws A = pre ++ ⟨ps, pA, pC⟩ :: rest) (hr : RO S w A (rws.flatMap Rw.enc)) : RO S w pA (ps.flatMap Rw.enc) := by
  obtain ⟨k, hk, e⟩ := part_of h
  cases e
  have := hr.sub (k + min n (rws.length - k)) k (min n (rws.length - k)) 1 (by omega)
  rwa [← drop_flat Rw.enc 1 Rw.enc_len, ← take_flat Rw.enc 1 Rw.enc_len] at this
theorem part_ron {S : List Nat} {w : World} (h : parts n rws A = pre ++ ⟨ps, pA, pC⟩ :: rest) (hr : ∀ i : Nat, RO S w (rws.getD i default).sA ((rws.getD i default).s.map vS)) (i : Nat) : RO S w (ps.getD i default).sA ((ps.getD i default).s.map vS) := by
  obtain ⟨k, hk, e⟩ := part_of h
  cases e
  rw [sub_at]; split
  · exact hr _
  · exact RO.nil
theorem part_len (h : parts n rws A = pre ++ ⟨ps, pA, pC⟩ :: rest) {m : Nat} (hm : rws.length ≤ m) : ps.length ≤ m := by
  obtain ⟨k, hk, e⟩ := part_of h
  cases e
  rw [List.length_take, List.length_drop]; omega
theorem part_short (h : parts n rws A = pre ++ ⟨ps, pA, pC⟩ :: rest) {m : Nat} (hm : ∀ i j, ((rws.getD i default).s.getD j []).length ≤ m) (i j : Nat) : ((ps.getD i default).s.getD j []).length ≤ m := by
  obtain ⟨k, hk, e⟩ := part_of h
  cases e
  rw [sub_at]; split
  · exact hm _ _
  · exact Nat.zero_le _
theorem part_cap (h : parts n rws A = pre ++ ⟨ps, pA, pC⟩ :: rest) (hm : ∀ i : Nat, (rws.getD i default).s.length ≤ (rws.getD i default).sC) (i : Nat) : (ps.getD i default).s.length ≤ (ps.getD i default).sC := by
  obtain ⟨k, hk, e⟩ := part_of h
  cases e
  rw [sub_at]; split
  · exact hm _
  · exact Nat.zero_le _
theorem flat_sub {α : Type} (X : List (List α)) (k m : Nat) : ((X.drop k).take m).flatten.length ≤ X.flatten.length := by
  have h1 := congrArg (fun l => (List.flatten l).length) (List.take_append_drop k X)
  have h2 := congrArg (fun l => (List.flatten l).length) (List.take_append_drop m (X.drop k))
  simp only [List.flatten_append, List.length_append] at h1 h2
  omega
theorem part_flat (h : parts n rws A = pre ++ ⟨ps, pA, pC⟩ :: rest) {m : Nat} (hm : (rws.map Rw.s).flatten.length ≤ m) : (ps.map Rw.s).flatten.length ≤ m := by
  obtain ⟨k, hk, e⟩ := part_of h
  cases e
  refine Nat.le_trans ?_ hm
  rw [List.map_take, List.map_drop]
  exact flat_sub _ _ _
theorem parts_chunks (hn : 1 ≤ n) : ∀ (f lo : Nat), rws.length - lo ≤ f → (partsN n rws A f lo).map (fun p => p.s.map Rw.s) = Srt.chunks n ((rws.drop lo).map Rw.s)
  | 0, lo, h => by rw [List.drop_of_length_le (by omega)]; rfl
  | f + 1, lo, hf => by
    rw [partsN]
    by_cases h : lo < rws.length
    · rw [if_pos h, Srt.chunks_cons (by omega) (by rw [ne_eq, List.map_eq_nil_iff, List.drop_eq_nil_iff]; omega), List.map_cons, parts_chunks hn f (lo + n) (by omega), ← List.map_take, ← List.map_drop, List.drop_drop]
      congr 1
      show ((rws.drop lo).take (min n (rws.length - lo))).map Rw.s = _
      by_cases h2 : n ≤ rws.length - lo
      · rw [Nat.min_eq_left h2]
      · rw [Nat.min_eq_right (by omega), List.take_of_length_le (by rw [List.length_drop]; omega), List.take_of_length_le (by rw [List.length_drop]; omega)]
    · rw [if_neg h, List.drop_of_length_le (by omega)]; rfl
theorem parts_pass {l : List SortField} (hv : valid l = true) (hn : 1 ≤ n) : (parts n rws A).map (fun p => mergeV l (p.s.map Rw.s)) = Srt.pass (cmpL l) n (rws.map Rw.s) := by
  have h := parts_chunks (rws := rws) (A := A) hn rws.length 0 (by omega)
  unfold Srt.pass
  rw [show rws.map Rw.s = (rws.drop 0).map Rw.s from rfl, ← h, List.map_map]
  refine List.map_congr_left fun p _ => ?_
  exact (mergeV_yes hv).symm
end
structure PassJ (c : Bytes → Bytes → Int) (f : Nat) (R0 X : List (List Bytes)) (np : Nat) : Prop where
  fin : (Srt.rounds c f X).1 = (Srt.rounds c f R0).1
  cnt : np + (Srt.rounds c f X).2 = (Srt.rounds c f R0).2
  perm : X.flatten.Perm R0.flatten
  few : X.length ≤ R0.length
section
variable {c : Bytes → Bytes → Int} {f np : Nat} {R0 X : List (List Bytes)}
theorem PassJ.start : PassJ c f R0 R0 0 := ⟨rfl, Nat.zero_add _, .refl _, Nat.le_refl _⟩
theorem PassJ.step (hc : Cmp c) (hf : 2 ≤ f) (h : PassJ c f R0 X np) (hl : 1 < X.length) : PassJ c f R0 (Srt.pass c f X) (np + 1) := by
  have hr := Srt.rounds_more (c := c) hf hl
  have h1 := h.fin
  have h2 := h.cnt
  rw [hr] at h1 h2
  refine ⟨h1, ?_, (Srt.pass_perm hc (by omega) X).trans h.perm, ?_⟩
  · simp only at h2; omega
  · have := Srt.pass_less (c := c) hf hl; have := h.few; omega
theorem PassJ.done (h : PassJ c f R0 X np) (hl : ¬ 1 < X.length) : (Srt.rounds c f R0).1 = X ∧ (Srt.rounds c f R0).2 = np := by
  have hr := Srt.rounds_done (c := c) (n := f) (ls := X) (by omega)
  have h1 := h.fin
  have h2 := h.cnt
  rw [hr] at h1 h2
  exact ⟨h1.symm, by simp only at h2; omega⟩
end
theorem passes_le (f : Nat) : ∀ m n : Nat, Srt.passes f m n ≤ m
  | 0, _ => Nat.le_refl _
  | m + 1, n => by
    rw [Srt.passes]; split
    · exact Nat.zero_le _
    · have := passes_le f m ((n + f - 1) / f); omega
theorem pass_bounds {l : List SortField} {m : Nat} (hm : 0 < m) {inn : List Bytes} {rws : List Rw} {f np : Nat} (hf : 2 ≤ f) (h : PassJ (cmpL l) f (Srt.runs (cmpL l) m inn) (rws.map Rw.s) np) {N n : Nat} (hi : inn.length ≤ N) (hs : ∀ i, (inn.getD i []).length ≤ n) :
    rws.length ≤ N ∧ (rws.map Rw.s).flatten.length ≤ N ∧ (∀ i j, ((rws.getD i default).s.getD j []).length ≤ n) ∧ np ≤ N := by
  have hp := h.perm.trans (Srt.runs_perm (cmpL_ok l) hm inn)
  have h1 := h.few
  have h2 := (runs_small (cmpL_ok l) hm inn).1
  rw [List.length_map] at h1
  have h3 := h.cnt
  rw [Srt.rounds_count hf, Srt.rounds_count hf] at h3
  have h4 := passes_le f (Srt.runs (cmpL l) m inn).length (Srt.runs (cmpL l) m inn).length
  refine ⟨by omega, by rw [hp.length_eq]; exact hi, fun i j => ?_, by omega⟩
  by_cases hi : i < rws.length
  · by_cases hj : j < (rws.getD i default).s.length
    · have hm1 : (rws.getD i default).s.getD j [] ∈ (rws.map Rw.s).flatten := List.mem_flatten.2 ⟨(rws.getD i default).s, List.mem_map_of_mem (getD_mem hi), getD_mem hj⟩
      obtain ⟨k, hk, e⟩ := getD_ex (d := []) (hp.mem_iff.1 hm1)
      rw [← e]; exact hs k
    · rw [List.getD_eq_getElem?_getD, List.getElem?_eq_none (by omega)]; exact Nat.zero_le _
  · rw [getD_out (by omega)]; exact Nat.zero_le _
theorem map_lens {next : List Rw} {pre : List Part} {f : Part → List Bytes} (h : next.map Rw.s = pre.map f) : next.length = pre.length := by
  have := congrArg List.length h
  rwa [List.length_map, List.length_map] at this
theorem PassJ.start_of {c : Bytes → Bytes → Int} {f : Nat} {R0 X : List (List Bytes)} (h : X = R0) : PassJ c f R0 X 0 := by subst h; exact .start
theorem pass_next {l : List SortField} {kf np : Nat} {R0 : List (List Bytes)} {runs next : List Rw} {A : Option Addr} (hc : Cmp (cmpL l)) (hf : 2 ≤ kf) (h : PassJ (cmpL l) kf R0 (runs.map Rw.s) np) (hl : 1 < runs.length) (hv : valid l = true) (hn : next.map Rw.s = (parts kf runs A).map (fun p => mergeV l (p.s.map Rw.s))) : PassJ (cmpL l) kf R0 (next.map Rw.s) (np + 1) := by
  rw [hn, parts_pass hv (by omega)]
  exact h.step hc hf (by rw [List.length_map]; exact hl)
theorem pass_dec {l : List SortField} {kf : Nat} {runs next : List Rw} {A : Option Addr} (hf : 2 ≤ kf) (hl : 1 < runs.length) (hv : valid l = true) (hn : next.map Rw.s = (parts kf runs A).map (fun p => mergeV l (p.s.map Rw.s))) : next.length < runs.length := by
  have h1 := map_lens (hn.trans rfl)
  have h2 := congrArg List.length hn
  rw [parts_pass hv (by omega), List.length_map] at h2
  have := Srt.pass_less (c := cmpL l) hf (ls := runs.map Rw.s) (by rw [List.length_map]; exact hl)
  rw [List.length_map] at this; omega
abbrev g1 (l : List SortField) (m fan : Int) : Bool := ((((!(valid l)) || decide (m < 1)) || decide ((1024 : Int) < m)) || decide (fan < 2)) || decide ((16 : Int) < fan)
abbrev g2 (rs : List Bytes) : Bool := decide ((1024 : Int) < ((rs.length : Nat) : Int)) || long rs
def sortV (l : List SortField) (m fan : Int) (fi : Bytes → Bytes × Bool) (fs : Bytes → Bytes → Bytes × Bool) (rs : List Bytes) : List Bytes × SortWork × Int :=
  if g1 l m fan = true then ([], ⟨0, 0, 0⟩, 1)
  else if g2 rs = true then ([], ⟨0, 0, 0⟩, 8)
  else if (inR fi rs).2.2 ≠ 0 then ([], ⟨0, 0, 0⟩, (inR fi rs).2.2)
  else if (sums (cmpL l) fs [] (Srt.srt (cmpL l) (inR fi rs).1)).2 ≠ 0 then ([], ⟨0, 0, 0⟩, (sums (cmpL l) fs [] (Srt.srt (cmpL l) (inR fi rs).1)).2)
  else ((sums (cmpL l) fs [] (Srt.srt (cmpL l) (inR fi rs).1)).1, ⟨((Srt.runs (cmpL l) m.toNat (inR fi rs).1).length : Int), ((Srt.rounds (cmpL l) fan.toNat (Srt.runs (cmpL l) m.toNat (inR fi rs).1)).2 : Int), (rs.length : Int) - ((sums (cmpL l) fs [] (Srt.srt (cmpL l) (inR fi rs).1)).1.length : Int)⟩, 0)
section
variable {l : List SortField} {m fan : Int} {fi : Bytes → Bytes × Bool} {fs : Bytes → Bytes → Bytes × Bool} {rs : List Bytes}
theorem sv_1 (h : g1 l m fan = true) : ([], SortWork.mk 0 0 0, (1 : Int)) = sortV l m fan fi fs rs := by unfold sortV; rw [if_pos h]
theorem sv_2 (h : g1 l m fan = false) (h2 : g2 rs = true) : ([], SortWork.mk 0 0 0, (8 : Int)) = sortV l m fan fi fs rs := by unfold sortV; rw [if_neg (by rw [h]; decide), if_pos h2]
theorem inR_drop {inn : List Bytes} {n e : Int} (h3 : (inn, n, e) = inR fi rs) (he : ¬ e ≠ 0) : n = (rs.length : Int) - (inn.length : Int) := by
  unfold inR at h3
  cases hi : inputs fi rs with
  | none => rw [hi] at h3; cases h3; exact absurd (by decide) he
  | some out => rw [hi] at h3; cases h3; rfl
theorem sv_5 {inn : List Bytes} {n e e2 : Int} {out sorted : List Bytes} {n1 n2 : Nat} {d : Int} (h : g1 l m fan = false) (h2 : g2 rs = false) (h3 : (inn, n, e) = inR fi rs) (he : ¬ e ≠ 0) (hs : sorted = Srt.srt (cmpL l) inn) (h4 : (out, e2) = sums (cmpL l) fs [] sorted) (he2 : ¬ e2 ≠ 0)
    (hn1 : n1 = (Srt.runs (cmpL l) m.toNat inn).length) (hn2 : (Srt.rounds (cmpL l) fan.toNat (Srt.runs (cmpL l) m.toNat inn)).2 = n2) (hd : d = n + ((sorted.length : Int) - (out.length : Int))) : (out, SortWork.mk (n1 : Int) (n2 : Int) d, (0 : Int)) = sortV l m fan fi fs rs := by
  have hlen : sorted.length = inn.length := by rw [hs, Srt.srt_len]
  have hn := inR_drop h3 he
  subst hs
  unfold sortV; rw [if_neg (by rw [h]; decide), if_neg (by rw [h2]; decide), ← h3, if_neg he, ← h4, if_neg he2, hn1, hn2]
  have : d = (rs.length : Int) - (out.length : Int) := by omega
  rw [this]
end
section
variable {fi : Bytes → Bytes × Bool} {c : Bytes → Bytes → Int} {fs : Bytes → Bytes → Bytes × Bool} {rs inn out : List Bytes} {n e : Int}
end
def idF (s : Bytes) : Bytes × Bool := (s, true)
def noF (_ _ : Bytes) : Bytes × Bool := ([], false)
theorem inputs_id : ∀ {l : List Bytes}, (∀ x ∈ l, x.length ≤ 1000) → inputs idF l = some l
  | [], _ => rfl
  | s :: r, h => by
    have hs := h s List.mem_cons_self
    show (if (true : Bool) = true then (if 1000 < s.length then none else (inputs idF r).map fun l => s :: l) else inputs idF r) = _
    rw [if_pos rfl, if_neg (by omega), inputs_id fun x hx => h x (List.mem_cons_of_mem _ hx)]; rfl
theorem inR_id {rs : List Bytes} (h : g2 rs = false) : (rs, (0 : Int), (0 : Int)) = inR idF rs := by
  unfold g2 at h
  have h2 := (Bool.or_eq_false_iff.1 h).2
  have := inR_end (f := idF) (rs := rs) (inputs_id fun x hx => by
    obtain ⟨i, hi, e⟩ := getD_ex (d := []) hx
    rw [← e]; exact long_facts h2 i)
  rwa [Int.sub_self] at this
theorem sums_no {c : Bytes → Bytes → Int} {l : List Bytes} : (l, (0 : Int)) = sums c noF [] l := by
  rw [sums_nil (fun _ _ => rfl)]; rfl
theorem one_row {l : List SortField} {m fan : Nat} {inn : List Bytes} {rws : List Rw} {np : Nat} (hm : 0 < m) (hf : 2 ≤ fan) (h : PassJ (cmpL l) fan (Srt.runs (cmpL l) m inn) (rws.map Rw.s) np) (hl : ¬ 1 < rws.length) : (rws.getD 0 default).s = Srt.srt (cmpL l) inn ∧ (Srt.rounds (cmpL l) fan (Srt.runs (cmpL l) m inn)).2 = np := by
  have h1 := h.done (by rw [List.length_map]; exact hl)
  have h2 := Srt.sorts (cmpL_ok l) hm hf inn
  rw [h1.1, map_at] at h2
  exact ⟨h2.2, h1.2⟩
theorem one_none {l : List SortField} {rws : List Rw} {inn : List Bytes} (h0 : ¬ 0 < rws.length) (h : (rws.getD 0 default).s = Srt.srt (cmpL l) inn) : [] = Srt.srt (cmpL l) inn := by
  rw [← h, getD_out (by omega)]; rfl
theorem runsV_yes {l : List SortField} {m : Int} {rs : List Bytes} {X : List (List Bytes)} (hm : 1 ≤ m) (hv : valid l = true) (h : X = runsV l m rs) : X = Srt.runs (cmpL l) m.toNat rs := by rw [h]; unfold runsV; rw [if_pos ⟨hm, hv⟩]
theorem g1_facts {l : List SortField} {m fan : Int} (h : g1 l m fan = false) : valid l = true ∧ 1 ≤ m ∧ m ≤ 1024 ∧ 2 ≤ fan ∧ fan ≤ 16 := by
  unfold g1 at h
  simp only [Bool.or_eq_false_iff, decide_eq_false_iff_not, Bool.not_eq_false'] at h
  refine ⟨h.1.1.1.1, by omega, by omega, by omega, by omega⟩
end R44
end Go.Proofs.YtmacopacmpgieaaGreatDoor

namespace Go.Proofs.YtmacopacmpgieaaGreatDoor
open Go.GV
namespace R44
open Srt (Cmp)
section
variable {c : Bytes → Bytes → Int} {f : Bytes → Bytes → Bytes × Bool} {out l : List Bytes} {k : Nat} {R : List Bytes × Int}
end
section
variable {l : List SortField} {m : Int} {kf : Nat} {fi : Bytes → Bytes × Bool} {fs : Bytes → Bytes → Bytes × Bool} {rs inn out : List Bytes}
end
end R44
end Go.Proofs.YtmacopacmpgieaaGreatDoor

namespace Go.Proofs.YtmacopacmpgieaaGreatDoor
open Go.GV
namespace R44
theorem dec_lenI (n : Int) (h : n ≤ 9223372036854775807) : (Lib.decDigits n.toNat).length ≤ 19 := dec_len19 (by omega)
theorem splitGo_len (b : UInt8) : ∀ (l cur : Bytes), ∀ x ∈ splitGo b cur l, x.length ≤ cur.length + l.length
  | [], cur, x, hx => by rw [splitGo] at hx; rw [List.mem_singleton.1 hx]; simp
  | c :: r, cur, x, hx => by
    rw [splitGo] at hx; rw [List.length_cons]
    split at hx
    · rcases List.mem_cons.1 hx with rfl | hx
      · omega
      · have := splitGo_len b r [] x hx; simp at this; omega
    · have := splitGo_len b r _ x hx; simp at this; omega
theorem splitC_len (b : UInt8) (s : Bytes) (i : Nat) : ((splitC b s).getD i []).length ≤ s.length := by
  by_cases h : i < (splitC b s).length
  · have := splitGo_len b s [] _ (getD_mem (d := []) h); rw [List.length_nil, Nat.zero_add] at this; exact this
  · rw [List.getD_eq_getElem?_getD, List.getElem?_eq_none (by omega)]; exact Nat.zero_le _
theorem splitGo_count (b : UInt8) : ∀ (l cur : Bytes), (splitGo b cur l).length ≤ l.length + 1
  | [], cur => by rw [splitGo]; simp
  | c :: r, cur => by
    rw [splitGo, List.length_cons]
    split
    · rw [List.length_cons]; have := splitGo_count b r []; omega
    · have := splitGo_count b r (cur ++ [c]); omega
theorem splitC_count (b : UInt8) (s : Bytes) : (splitC b s).length ≤ s.length + 1 := splitGo_count b s []
def SplJ (b : UInt8) (s : Bytes) (k : Nat) (out : List Bytes) : Prop := ∃ pre cur, out = pre ++ [cur] ∧ splitC b s = pre ++ splitGo b cur (s.drop k)
section
variable {b : UInt8} {s : Bytes} {k : Nat} {out : List Bytes}
theorem SplJ.start : SplJ b s 0 [[]] := ⟨[], [], rfl, rfl⟩
theorem SplJ.ne (h : SplJ b s k out) : 0 < out.length := by obtain ⟨pre, cur, rfl, _⟩ := h; simp
theorem SplJ.cut (h : SplJ b s k out) (hk : k < s.length) (hb : s.getD k 0 = b) : SplJ b s (k + 1) (out ++ [[]]) := by
  obtain ⟨pre, cur, rfl, h2⟩ := h
  refine ⟨pre ++ [cur], [], rfl, ?_⟩
  rw [h2, drop_cons (d := 0) hk, splitGo, if_pos hb]; simp
theorem SplJ.add (h : SplJ b s k out) (hk : k < s.length) (hb : ¬ s.getD k 0 = b) : SplJ b s (k + 1) (out.set (out.length - 1) (out.getD (out.length - 1) [] ++ sub s k (k + 1))) := by
  obtain ⟨pre, cur, rfl, h2⟩ := h
  refine ⟨pre, cur ++ [s.getD k 0], ?_, ?_⟩
  · rw [List.length_append, List.length_singleton, Nat.add_sub_cancel, List.set_append_right _ _ (Nat.le_refl _), Nat.sub_self, List.getD_eq_getElem?_getD, List.getElem?_append_right (Nat.le_refl _), Nat.sub_self, sub_snoc (Nat.le_refl k) hk, sub_none]; rfl
  · rw [h2, drop_cons (d := 0) hk, splitGo, if_neg hb]
theorem SplJ.done (h : SplJ b s k out) (hk : s.length ≤ k) : out = splitC b s := by
  obtain ⟨pre, cur, rfl, h2⟩ := h
  rw [h2, List.drop_of_length_le hk]; rfl
theorem SplJ.short (h : SplJ b s k out) (i : Nat) : (out.getD i []).length ≤ s.length := by
  obtain ⟨pre, cur, rfl, h2⟩ := h
  have key : ∀ x ∈ pre ++ [cur], x.length ≤ s.length := by
    intro x hx
    rcases List.mem_append.1 hx with hx | hx
    · have := splitGo_len b s [] x (by show x ∈ splitC b s; rw [h2]; exact List.mem_append_left _ hx)
      simpa using this
    · rw [List.mem_singleton.1 hx]
      have h3 : (splitGo b cur (s.drop k)).getD 0 [] ∈ splitC b s := by
        rw [h2]
        exact List.mem_append_right _ (getD_mem (List.length_pos_iff.2 (splitGo_ne b _ _)))
      have h4 := splitGo_len b s [] _ h3
      have h5 : cur.length ≤ ((splitGo b cur (s.drop k)).getD 0 []).length := by
        rw [splitGo_pre]
        cases hs : splitGo b [] (s.drop k) with
        | nil => exact absurd hs (splitGo_ne b _ _)
        | cons y r => simp
      rw [List.length_nil, Nat.zero_add] at h4; omega
  by_cases hi : i < (pre ++ [cur]).length
  · exact key _ (getD_mem hi)
  · rw [List.getD_eq_getElem?_getD, List.getElem?_eq_none (by omega)]; exact Nat.zero_le _
theorem SplJ.few (h : SplJ b s k out) : out.length ≤ s.length + 1 := by
  obtain ⟨pre, cur, rfl, h2⟩ := h
  have := splitC_count b s
  rw [h2, List.length_append] at this
  have := List.length_pos_iff.2 (splitGo_ne b (s.drop k) cur)
  rw [List.length_append, List.length_singleton]; omega
end
def ixFrom : List Bytes → Bytes → Nat → Int
  | [], _, _ => -1
  | x :: r, v, k => if x = v then (k : Int) else ixFrom r v (k + 1)
def ixOf (xs : List Bytes) (v : Bytes) : Int := ixFrom xs v 0
abbrev KS : List Bytes := [[116, 101, 120, 116], [110, 117, 109, 98, 101, 114], [98, 105, 110, 97, 114, 121]]
abbrev DS : Bytes := [100, 101, 115, 99, 101, 110, 100, 105, 110, 103]
def kindOf (R : List Bytes) : Int × List Bytes := if (decide ((0 : Int) < ((R.length : Nat) : Int)) && decide (0 ≤ ixOf KS (R.getD 0 []))) = true then (([0, 1, 2] : List Int).getD (ixOf KS (R.getD 0 [])).toNat 0, R.drop 1) else (0, R)
def descOf (R : List Bytes) : Bool × List Bytes := if (decide ((0 : Int) < ((R.length : Nat) : Int)) && decide (R.getD 0 [] = DS)) = true then (true, R.drop 1) else (false, R)
def fieldW (W : List Bytes) : Option SortField :=
  if 2 ≤ W.length then
    (match numV (W.getD 0 []), numV (W.getD 1 []) with
     | some a, some n => if (descOf (kindOf (W.drop 2)).2).2 = [] then some ⟨(a : Int), (n : Int), (kindOf (W.drop 2)).1, (descOf (kindOf (W.drop 2)).2).1⟩ else none
     | _, _ => none)
  else none
def fieldsW : List Bytes → Option (List SortField)
  | [] => some []
  | p :: r => match fieldW (words p) with
    | none => none
    | some f => (fieldsW r).map fun l => f :: l
def parseV (s : Bytes) : List SortField × Int := if words s = [] then ([], 0) else match fieldsW (splitC 44 s) with
  | none => ([], 3)
  | some l => if valid l = true then (l, 0) else ([], 1)
def FldJ (ps : List Bytes) (k : Nat) (out : List SortField) : Prop := fieldsW ps = (fieldsW (ps.drop k)).map fun l => out ++ l
section
variable {ps : List Bytes} {k : Nat} {out : List SortField} {s : Bytes}
theorem FldJ.start : FldJ ps 0 [] := by
  show fieldsW ps = (fieldsW ps).map fun l => [] ++ l
  cases fieldsW ps <;> rfl
theorem FldJ.add (h : FldJ ps k out) (hk : k < ps.length) {f : SortField} (hf : fieldW (words (ps.getD k [])) = some f) : FldJ ps (k + 1) (out ++ [f]) := by
  unfold FldJ at *
  rw [h, drop_cons (d := []) hk, fieldsW, hf]
  cases fieldsW (ps.drop (k + 1)) <;> simp
theorem FldJ.bad (h : FldJ (splitC 44 s) k out) (hs : words s ≠ []) (hk : k < (splitC 44 s).length) (hf : fieldW (words ((splitC 44 s).getD k [])) = none) : (([] : List SortField), (3 : Int)) = parseV s := by
  unfold FldJ at h
  rw [drop_cons (d := []) hk, fieldsW, hf] at h
  unfold parseV; rw [if_neg hs, h]; rfl
theorem FldJ.done (h : FldJ (splitC 44 s) k out) (hs : words s ≠ []) (hk : (splitC 44 s).length ≤ k) : parseV s = if valid out = true then (out, 0) else ([], 1) := by
  unfold FldJ at h
  rw [List.drop_of_length_le hk] at h
  unfold parseV; rw [if_neg hs, h]
  simp [fieldsW]
theorem FldJ.no (h : FldJ (splitC 44 s) k out) (hs : words s ≠ []) (hk : (splitC 44 s).length ≤ k) (hv : valid out = false) : (([] : List SortField), (1 : Int)) = parseV s := by rw [h.done hs hk, if_neg (by rw [hv]; decide)]
variable {W : List Bytes} {n1 n2 : Int} {o1 o2 : Bool}
variable {R : List Bytes}
end
end R44
end Go.Proofs.YtmacopacmpgieaaGreatDoor

namespace Go.Proofs.YtmacopacmpgieaaGreatDoor
open Go.GV
set_option linter.unusedVariables false
set_option linter.unusedSimpArgs false
theorem cb0_ {p : Prop} (h : p := by first | exact R44.name_0 (by assumption) | exact R44.name_bad (k := k) (by omega) (by assumption) | exact R44.name_end (by assumption) (fun i h2 => i1_1 i (by omega))) : p := h
set_option maxRecDepth 20000 in
theorem f52_ok (s : Bytes) (kp : Addr) (w : World) (kpR : RO [] w (some kp) [Value.func (.func 51) #[] #[]]) (hT : Tab [] w) (q0 : s.length ≤ 1000000) : Calls Tryz.prog 52 #[vS s, vP kp] w (Gives [] w fun v L => v = vB (R44.patV s) ∧ L = []) := by
 refine calls_J [] 16 Tryz.func52 rfl Tryz.ntmps52 [(0, _), (1, _)] rfl rfl (Give.nil w) ?_
 refine q_ (g_ (s_ av_ (z_ (n_ (q_ (g_ (s_ mv_ (js_ (vB (decide (s = ([42, 42] : Bytes)))) (x_eql_s rfl rfl) (s_ mv_ ?_)))))))))
 refine or_ 8 ((R44.qualV R44.isSt R44.isPs s) && (!(Lib.contains s [42, 42]))) (fun g1 => ?_) ?_
 ·have g1r := g1
  have g1r := of_decide_eq_false g1r
  refine sg_ g1 mv_ (rg_ g1 (x_load_ptr kpR rfl Ty.sc62) (c0g g1 (cl_ Ty.ca30) (fun w hS => fq2_ok s w hy_) (sg_ g1 mv_ ?_)))
  refine and_ 3 (!(Lib.contains s [42, 42])) (fun g2 => ?_) ?_ (hw := by exact ⟨_, rfl, g1⟩)
  ·have g2r := g2
   refine sg_ g2 mv_ (c0g g2 (cl_ Ty.ca54) (fun w hS => contains_ok s w (hT.on hS (fun _ h => by cases h)) hy_) (sg_ g2 (x_not rfl) ?_))
   exact cr_
  exact cr_
 refine s_ av_ (z_ (n_ (rt_ ?_)))
 exact p1 Tryz.results52 rfl ⟨(eB (by rfl)), rfl⟩
set_option maxRecDepth 20000 in
theorem fa1_ok (s : Bytes) (w : World) (hT : Tab [] w) (q0 : s.length ≤ 1000000) : Calls Tryz.prog 28 #[vS s, vI 31, Value.func (.func 29) #[] #[]] w (Gives [] w fun v L => v = vB (R44.nameV (R44.qualV R44.isUp R44.isPl) s) ∧ L = []) := by
 refine calls_J [] 30 Tryz.func28 rfl Tryz.ntmps28 [(0, _), (1, _), (2, _)] rfl rfl (Give.nil w) ?_
 refine q_ (g_ (s_ av_ (z_ (n_ (q_ (q_ (g_ (s_ mv_ (s_ (x_len_s rfl Tryz.underlying9) (s_ (x_lss_i rfl rfl) (s_ mv_ ?_)))))))))))
 refine or_ 4 (decide ((31 : Int) < ((s.length : Nat) : Int))) (fun g1 => ?_) ?_
 ·have g1r := g1
  have g1r := of_decide_eq_false g1r
  refine sg_ g1 mv_ (sg_ g1 (x_len_s rfl Tryz.underlying9) (sg_ g1 mv_ (sg_ g1 (x_gtr_i rfl rfl) ?_)))
  exact cr_
 refine z_ (n_ ?_)
 refine if_ (fun h2 => ?_) (fun h2 => ?_)
 ·have h2w := h2
  simp only [Bool.and_eq_true, Bool.or_eq_true, Bool.and_eq_false_iff, Bool.or_eq_false_iff, Bool.not_eq_true', Bool.not_eq_false', decide_eq_true_eq, decide_eq_false_iff_not] at h2
  refine q_ (g_ (s_ av_ (z_ (n_ (rt_ (nr_ ?_))))))
  exact p1 Tryz.results28 rfl ⟨(eB cb0_), rfl⟩
 ·have h2w := h2
  have ⟨h2, h3⟩ := bor_false h2
  have h2 := of_decide_eq_false h2
  have h3 := of_decide_eq_false h3
  refine sk_ (n_ (q_ (q_ (g_ (s_ mv_ ?_)))))
  refine c1 (cl_ Ty.ca22) (fun w hS => split_ok s w (hT.on hS (fun _ h => by cases h)) hy_) ?_
  rintro _ _ ⟨e4, e5, rfl, rfl⟩
  have ha6 := R44.splitC_count 46 s
  refine s_ (lnS Tryz.underlying22) (s_ mv_ (z_ (n_ (k_ ?_))))
  refine J_loop (X := Nat) (fun (k : Nat) => (k ≤ (R44.splitC 46 s).length) ∧ (∀ i, i < k → (R44.qualV R44.isUp R44.isPl) ((R44.splitC 46 s).getD i []) = true)) (fun (k : Nat) => [(2, Value.func (.func 29) #[] #[]), (19, vL e4 ((R44.splitC 46 s).length) e5), (20, vI (((R44.splitC 46 s).length : Nat) : Int)), (21, vI ((k : Nat) : Int))]) (fun (k : Nat) => [Ent.row (.slice e4 (R44.splitC 46 s).length e5) 9 1 (R44.splitC 46 s).length ((R44.splitC 46 s).map vS)]) (fun (k : Nat) => (R44.splitC 46 s).length - k) (0 : Nat) ?_ ⟨rfl, rfl, rfl, rfl, trivial⟩ (fun _ h => h) ?_
  ·try dsimp only
   refine ⟨?_, ?_⟩
   ·first | rfl | omega | (simp_all; done) | (simp_all; omega)
   ·intro i h2; omega
  intro k hI1
  obtain ⟨i1_0, i1_1⟩ := hI1
  try dsimp only at i1_0
  try dsimp only at i1_1
  have hpl := R44.splitC_len 46 s k
  try dsimp only
  refine q_ (g_ (s_ (x_lss_i rfl rfl) (z_ (n_ (q_ ?_)))))
  refine ifd (fun h7w h7 => ?_) (fun h7w h7 => ?_)
  ·refine sk_ (n_ (q_ (k_ (q_ (g_ (r_ (ixM (cells_row 0 rfl) Tryz.underlying22 Ty.sz9) (r_ (ldM vS [] (cells_row 0 rfl) Ty.sc9) (s_ av_ (z_ (n_ (q_ (g_ (s_ mv_ (s_ mv_ (c0 (x_callv (first := []) (caps := []) rfl Ty.ca29 rfl) (fun w hS => f29_ok _ w hy_) (s_ (x_not rfl) (z_ (n_ ?_))))))))))))))))))
   refine if_ (fun h8 => ?_) (fun h8 => ?_)
   ·have h8w := h8
    have h8 : (R44.qualV R44.isUp R44.isPl ((R44.splitC 46 s).getD k [])) = false := bnot_true h8
    refine q_ (g_ (s_ av_ (z_ (n_ (rt_ (kq_ (nr_ (rr_ (kq_ (nr_ ?_))))))))))
    exact p1 Tryz.results28 rfl ⟨(eB cb0_), rfl⟩
   ·have h8w := h8
    have h8 : (R44.qualV R44.isUp R44.isPl ((R44.splitC 46 s).getD k [])) = true := bnot_false h8
    refine sk_ (kx_ (n_ (g_ (s_ (x_add_n (a := k) (b := 1) rfl rfl (by omega)) (s_ mv_ (z_ ?_))))))
    refine JX_round (k + 1 : Nat) ?_ ?_ ⟨rfl, rfl, rfl, rfl, trivial⟩ (fun _ h => h)
    ·try dsimp only
     refine ⟨?_, ?_⟩
     ·first | rfl | omega | (simp_all; done) | (simp_all; omega)
     ·exact R44.all_step i1_1 (by assumption)
    ·try dsimp only
     first | omega | (simp; omega) | (simp_all; omega)
  ·refine J_exit (ne_ (re_ (kh_ (n_ (q_ ?_)))))
   refine g_ (s_ av_ (z_ (n_ (rt_ ?_))))
   exact p1 Tryz.results28 rfl ⟨(eB cb0_), rfl⟩
set_option maxRecDepth 20000 in
theorem fa2_ok (s : Bytes) (kp : Addr) (w : World) (kpR : RO [] w (some kp) [Value.func (.func 51) #[] #[]]) (hT : Tab [] w) (q0 : s.length ≤ 1000000) : Calls Tryz.prog 28 #[vS s, vI 31, Value.func (.func 52) #[] #[vP kp]] w (Gives [] w fun v L => v = vB (R44.nameV R44.patV s) ∧ L = []) := by
 refine calls_J [] 30 Tryz.func28 rfl Tryz.ntmps28 [(0, _), (1, _), (2, _)] rfl rfl (Give.nil w) ?_
 refine q_ (g_ (s_ av_ (z_ (n_ (q_ (q_ (g_ (s_ mv_ (s_ (x_len_s rfl Tryz.underlying9) (s_ (x_lss_i rfl rfl) (s_ mv_ ?_)))))))))))
 refine or_ 4 (decide ((31 : Int) < ((s.length : Nat) : Int))) (fun g1 => ?_) ?_
 ·have g1r := g1
  have g1r := of_decide_eq_false g1r
  refine sg_ g1 mv_ (sg_ g1 (x_len_s rfl Tryz.underlying9) (sg_ g1 mv_ (sg_ g1 (x_gtr_i rfl rfl) ?_)))
  exact cr_
 refine z_ (n_ ?_)
 refine if_ (fun h2 => ?_) (fun h2 => ?_)
 ·have h2w := h2
  simp only [Bool.and_eq_true, Bool.or_eq_true, Bool.and_eq_false_iff, Bool.or_eq_false_iff, Bool.not_eq_true', Bool.not_eq_false', decide_eq_true_eq, decide_eq_false_iff_not] at h2
  refine q_ (g_ (s_ av_ (z_ (n_ (rt_ (nr_ ?_))))))
  exact p1 Tryz.results28 rfl ⟨(eB cb0_), rfl⟩
 ·have h2w := h2
  have ⟨h2, h3⟩ := bor_false h2
  have h2 := of_decide_eq_false h2
  have h3 := of_decide_eq_false h3
  refine sk_ (n_ (q_ (q_ (g_ (s_ mv_ ?_)))))
  refine c1 (cl_ Ty.ca22) (fun w hS => split_ok s w (hT.on hS (fun _ h => by cases h)) hy_) ?_
  rintro _ _ ⟨e4, e5, rfl, rfl⟩
  have ha6 := R44.splitC_count 46 s
  refine s_ (lnS Tryz.underlying22) (s_ mv_ (z_ (n_ (k_ ?_))))
  refine J_loop (X := Nat) (fun (k : Nat) => (k ≤ (R44.splitC 46 s).length) ∧ (∀ i, i < k → R44.patV ((R44.splitC 46 s).getD i []) = true)) (fun (k : Nat) => [(2, Value.func (.func 52) #[] #[vP kp]), (19, vL e4 ((R44.splitC 46 s).length) e5), (20, vI (((R44.splitC 46 s).length : Nat) : Int)), (21, vI ((k : Nat) : Int))]) (fun (k : Nat) => [Ent.row (.slice e4 (R44.splitC 46 s).length e5) 9 1 (R44.splitC 46 s).length ((R44.splitC 46 s).map vS)]) (fun (k : Nat) => (R44.splitC 46 s).length - k) (0 : Nat) ?_ ⟨rfl, rfl, rfl, rfl, trivial⟩ (fun _ h => h) ?_
  ·try dsimp only
   refine ⟨?_, ?_⟩
   ·first | rfl | omega | (simp_all; done) | (simp_all; omega)
   ·intro i h2; omega
  intro k hI1
  obtain ⟨i1_0, i1_1⟩ := hI1
  try dsimp only at i1_0
  try dsimp only at i1_1
  have hpl := R44.splitC_len 46 s k
  try dsimp only
  refine q_ (g_ (s_ (x_lss_i rfl rfl) (z_ (n_ (q_ ?_)))))
  refine ifd (fun h7w h7 => ?_) (fun h7w h7 => ?_)
  ·refine sk_ (n_ (q_ (k_ (q_ (g_ (r_ (ixM (cells_row 0 rfl) Tryz.underlying22 Ty.sz9) (r_ (ldM vS [] (cells_row 0 rfl) Ty.sc9) (s_ av_ (z_ (n_ (q_ (g_ (s_ mv_ (s_ mv_ (c0 (x_callv (first := []) (caps := [vP kp]) rfl Ty.ca52 rfl) (fun w hS => f52_ok _ kp w (rno kpR hS) (hT.on hS (fun _ h => by cases h)) hy_) (s_ (x_not rfl) (z_ (n_ ?_))))))))))))))))))
   refine if_ (fun h8 => ?_) (fun h8 => ?_)
   ·have h8w := h8
    have h8 : (R44.patV ((R44.splitC 46 s).getD k [])) = false := bnot_true h8
    refine q_ (g_ (s_ av_ (z_ (n_ (rt_ (kq_ (nr_ (rr_ (kq_ (nr_ ?_))))))))))
    exact p1 Tryz.results28 rfl ⟨(eB cb0_), rfl⟩
   ·have h8w := h8
    have h8 : (R44.patV ((R44.splitC 46 s).getD k [])) = true := bnot_false h8
    refine sk_ (kx_ (n_ (g_ (s_ (x_add_n (a := k) (b := 1) rfl rfl (by omega)) (s_ mv_ (z_ ?_))))))
    refine JX_round (k + 1 : Nat) ?_ ?_ ⟨rfl, rfl, rfl, rfl, trivial⟩ (fun _ h => h)
    ·try dsimp only
     refine ⟨?_, ?_⟩
     ·first | rfl | omega | (simp_all; done) | (simp_all; omega)
     ·exact R44.all_step i1_1 (by assumption)
    ·try dsimp only
     first | omega | (simp; omega) | (simp_all; omega)
  ·refine J_exit (ne_ (re_ (kh_ (n_ (q_ ?_)))))
   refine g_ (s_ av_ (z_ (n_ (rt_ ?_))))
   exact p1 Tryz.results28 rfl ⟨(eB cb0_), rfl⟩
set_option maxRecDepth 20000 in
theorem f9_ok (s : Bytes) (w : World) (hT : Tab [] w) (q0 : s.length ≤ 1000000) : Calls Tryz.prog 9 #[vS s] w (Gives [] w fun v L => v = vB (R44.nameV (R44.qualV R44.isUp R44.isPl) s) ∧ L = []) := by
 refine calls_J [] 5 Tryz.func9 rfl Tryz.ntmps9 [(0, _)] rfl rfl (Give.nil w) ?_
 refine q_ (g_ (s_ av_ (z_ (n_ (q_ (g_ (s_ mv_ (c0 (cl_ Ty.ca28) (fun w hS => fa1_ok s w (hT.on hS (fun _ h => by cases h)) hy_) (s_ av_ (z_ (n_ (rt_ ?_))))))))))))
 exact p1 Tryz.results9 rfl ⟨rfl, rfl⟩
set_option maxRecDepth 20000 in
theorem f21_ok (s : Bytes) (w : World) (hT : Tab [] w) (q0 : s.length ≤ 1000000) : Calls Tryz.prog 21 #[vS s] w (Gives [] w fun v L => v = vB (R44.nameV R44.patV s) ∧ L = []) := by
 refine calls_J [] 7 Tryz.func21 rfl Tryz.ntmps21 [(0, _)] rfl rfl (Give.nil w) ?_
 refine q_ (g_ (s_ av_ (z_ (n_ (q_ (g_ (o_ (al_ Ty.ze62 fun b1 => ?_))))))))
 refine o_ (st1 0 Ty.sz62 ?_)
 refine z_ (n_ (q_ (g_ (s_ mv_ (js_ (Value.func (.func 52) #[] #[pB b1 0]) (x_makeFunc rfl rfl) (c0 (cl_ Ty.ca28) (fun w hS => fa2_ok s _ w (RO.of_blk hS 0 (off := 0) (m := 1) rfl rfl) (hT.on hS (fun _ h => by cases h)) hy_) (s_ av_ (z_ (n_ (rt_ ?_))))))))))
 exact p1 Tryz.results21 rfl ⟨rfl, rfl⟩
end Go.Proofs.YtmacopacmpgieaaGreatDoor

namespace Go.GV
open Go.RowKit
section
variable {E : Env} {P : Program} {x y : Operand} {dst : Option Nat} {t ty : TypeId} {pos : String} {af : Array Edge} {g : Option (Nat × Bool)}
theorem O_allocA {α : Type} {S : List Nat} {w0 : World} {L : List Ent} {K : Value → List Ent → Prop} (f : α → Value) (xs : List α) (hz : zeroIs P t = some (.agg (xs.map f).toArray))
    (k : ∀ b, K (.pointer (some ⟨b, 0, none⟩)) (Ent.blk b t (xs.map f) :: L)) : OpJ P S w0 E L ⟨dst, .alloc t, ty, pos, af, g⟩ K := O_alloc hz (by simp [Value.cells]) k
end
section
variable {P : Program} {n : Dim} {S : List Nat} {w0 : World} {Q : Post} {E : Env} {L : List Ent} {ops : Array Oper} {Lg Lu : List Ent} {us : List Nat} {fuel : Nat} {listed : Array Bool}
theorem JI_shun {i : Nat} {o : Oper} (hi : ops[i]? = some o) (hd : dstOk n o.dst = true) (hw : shuns ops E o) (h : JA P n S w0 ops Q Lg us Lu fuel (listed.setIfInBounds i true) (put E o.dst undef) L) : JI P n S w0 ops Q Lg us Lu fuel listed E L i := by
  intro a w hR hS hcl
  unfold wpOpIn
  rw [hi]
  simp only [shuns_wanted hR hw, Bool.false_eq_true, if_false]
  exact ⟨fun _ _ => trivial, h _ w (hR.put (fun d hd' => by rw [hd'] at hd; simpa [dstOk, Nat.blt_eq] using hd) undef) hS hcl⟩
end
theorem add_0kn (b k n : Nat) : (⟨b, 0, none⟩ : Addr).add (k * n) = ⟨b, k * n, none⟩ := by rw [add_lit, Nat.zero_add]
end Go.GV

namespace Go.Proofs.YtmacopacmpgieaaGreatDoor
open Go.GV
namespace R44
def cellD (st : Nat → Bool) (on : Nat → Nat → Bool) (n i : Nat) (bl : Nat → Bool) : Nat → Bool
  | 0 => st i && bl n
  | d + 1 => if st i = true then bl (n - (d + 1)) || cellD st on n i bl d else bl (n - (d + 1) + 1) && on i (n - (d + 1))
def dpR (st : Nat → Bool) (on : Nat → Nat → Bool) (parts n : Nat) : Nat → Nat → Bool
  | 0, k => decide (k = n)
  | e + 1, k => cellD st on n (parts - (e + 1)) (dpR st on parts n e) (n - k)
def dp (st : Nat → Bool) (on : Nat → Nat → Bool) (parts n i k : Nat) : Bool := dpR st on parts n (parts - i) k
section
variable {st : Nat → Bool} {on : Nat → Nat → Bool} {parts n i k : Nat}
theorem dp_star (hi : i < parts) (hk : k ≤ n) (hs : st i = true) : dp st on parts n i k = (dp st on parts n (i + 1) k || (decide (k < n) && dp st on parts n i (k + 1))) := by
  unfold dp
  obtain ⟨e, he⟩ : ∃ e, parts - i = e + 1 := ⟨parts - i - 1, by omega⟩
  have he2 : parts - (i + 1) = e := by omega
  have hi2 : parts - (e + 1) = i := by omega
  rw [he, he2, dpR, dpR, hi2]
  by_cases h : k < n
  · obtain ⟨d, hd⟩ : ∃ d, n - k = d + 1 := ⟨n - k - 1, by omega⟩
    have hd2 : n - (k + 1) = d := by omega
    have hk2 : n - (d + 1) = k := by omega
    rw [hd, hd2, cellD, if_pos hs, hk2, decide_eq_true h, Bool.true_and]
  · have hkn : k = n := by omega
    subst hkn
    rw [Nat.sub_self, cellD, hs, decide_eq_false h, Bool.true_and, Bool.false_and, Bool.or_false]
theorem dp_one (hi : i < parts) (hk : k ≤ n) (hs : st i = false) : dp st on parts n i k = ((decide (k < n) && dp st on parts n (i + 1) (k + 1)) && on i k) := by
  unfold dp
  obtain ⟨e, he⟩ : ∃ e, parts - i = e + 1 := ⟨parts - i - 1, by omega⟩
  have he2 : parts - (i + 1) = e := by omega
  have hi2 : parts - (e + 1) = i := by omega
  rw [he, he2, dpR, hi2]
  by_cases h : k < n
  · obtain ⟨d, hd⟩ : ∃ d, n - k = d + 1 := ⟨n - k - 1, by omega⟩
    have hk2 : n - (d + 1) = k := by omega
    rw [hd, cellD, if_neg (by rw [hs]; decide), hk2, decide_eq_true h, Bool.true_and]
  · have hkn : k = n := by omega
    subst hkn
    rw [Nat.sub_self, cellD, hs, decide_eq_false h, Bool.false_and, Bool.false_and, Bool.false_and]
theorem dp_last : dp st on parts n parts k = decide (k = n) := by unfold dp; rw [Nat.sub_self, dpR]
end
structure TJ (st : Nat → Bool) (on : Nat → Nat → Bool) (parts n : Nat) (fl : List Bool) (i k : Int) : Prop where
  len : fl.length = 1600
  at_ : ∀ r c, r ≤ parts → c ≤ n → fl.getD (r * 40 + c) false = if i < r ∨ (i = r ∧ k < c) then dp st on parts n r c else false
section
variable {st : Nat → Bool} {on : Nat → Nat → Bool} {parts n : Nat} {fl : List Bool} {i k : Int}
theorem TJ.start (hp : parts ≤ 39) (hn : n ≤ 39) : TJ st on parts n ((List.replicate 1600 false).set (parts * 40 + n) true) ((parts : Int) - 1) n := by
  refine ⟨by rw [List.length_set, List.length_replicate], fun r c hr hc => ?_⟩
  rw [List.getD_eq_getElem?_getD, List.getElem?_set]
  by_cases e : parts * 40 + n = r * 40 + c
  · have h1 : parts = r := by omega
    have h2 : n = c := by omega
    subst h1; subst h2
    rw [if_pos rfl, if_pos (by rw [List.length_replicate]; omega), if_pos (.inl (by omega)), dp_last, decide_eq_true rfl]; rfl
  · rw [if_neg e]
    have h0 : ((List.replicate 1600 false)[r * 40 + c]?).getD false = false := by rw [List.getElem?_replicate]; split <;> rfl
    rw [h0]
    split
    · rename_i h
      have hrp : r = parts := by omega
      subst hrp
      rw [dp_last, decide_eq_false (by omega)]
    · rfl
theorem TJ.row (h : TJ st on parts n fl i (-1)) : TJ st on parts n fl (i - 1) n := by
  refine ⟨h.len, fun r c hr hc => ?_⟩
  rw [h.at_ r c hr hc]
  by_cases e : i ≤ (r : Int)
  · rw [if_pos (by omega), if_pos (by omega)]
  · rw [if_neg (by omega), if_neg (by omega)]
theorem TJ.put (h : TJ st on parts n fl i k) (hp : parts ≤ 39) (hn : n ≤ 39) (hi : 0 ≤ i) (hi2 : i < parts) (hk : 0 ≤ k) (hk2 : k ≤ n) {b : Bool} (hb : b = dp st on parts n i.toNat k.toNat) : TJ st on parts n (fl.set (i.toNat * 40 + k.toNat) b) i (k - 1) := by
  refine ⟨by rw [List.length_set]; exact h.len, fun r c hr hc => ?_⟩
  rw [List.getD_eq_getElem?_getD, List.getElem?_set]
  by_cases e : i.toNat * 40 + k.toNat = r * 40 + c
  · have h1 : i.toNat = r := by omega
    have h2 : k.toNat = c := by omega
    rw [if_pos e, if_pos (by rw [h.len]; omega), if_pos (.inr ⟨by omega, by omega⟩), hb, h1, h2]; rfl
  · rw [if_neg e, ← List.getD_eq_getElem?_getD, h.at_ r c hr hc]
    by_cases e2 : i < (r : Int) ∨ (i = (r : Int) ∧ k < (c : Int))
    · rw [if_pos e2, if_pos (by omega)]
    · rw [if_neg e2, if_neg (by omega)]
theorem TJ.below (h : TJ st on parts n fl i k) (hi : 0 ≤ i) (hi2 : i < parts) {c : Nat} (hc : c ≤ n) : fl.getD ((i + 1).toNat * 40 + c) false = dp st on parts n (i.toNat + 1) c := by
  rw [show (i + 1).toNat = i.toNat + 1 by omega, h.at_ _ _ (by omega) hc, if_pos (.inl (by omega))]
theorem TJ.right (h : TJ st on parts n fl i k) (hi : 0 ≤ i) (hi2 : i < parts) (hk : 0 ≤ k) (hk2 : k < n) : fl.getD (i.toNat * 40 + (k + 1).toNat) false = dp st on parts n i.toNat (k.toNat + 1) := by
  rw [h.at_ _ _ (by omega) (by omega), if_pos (.inr ⟨by omega, by omega⟩), show (k + 1).toNat = k.toNat + 1 by omega]
theorem TJ.done (h : TJ st on parts n fl (-1) k) : fl.getD 0 false = dp st on parts n 0 0 := by
  have := h.at_ 0 0 (Nat.zero_le _) (Nat.zero_le _)
  rw [if_pos (.inl (by omega))] at this
  simpa using this
end
def stS (a : Bytes) (i : Nat) : Bool := decide (a.getD i 0 = (42 : UInt8))
def onS (a b : Bytes) (i k : Nat) : Bool := decide (a.getD i 0 = b.getD k 0)
section
variable {a b : Bytes} {fl : List Bool} {i k : Int}
abbrev TJs (a b : Bytes) (fl : List Bool) (i k : Int) : Prop := TJ (stS a) (onS a b) a.length b.length fl i k
theorem TJ.putA (h : TJs a b fl i k) (hp : a.length ≤ 39) (hn : b.length ≤ 39) (hi : 0 ≤ i) (hi2 : i < a.length) (hk : 0 ≤ k) (hk2 : k ≤ b.length) (hs : a.getD i.toNat 0 = (42 : UInt8)) (hb : fl.getD ((i + 1).toNat * 40 + k.toNat) false = true) : TJs a b (fl.set (i.toNat * 40 + k.toNat) true) i (k - 1) := by
  refine h.put hp hn hi hi2 hk hk2 ?_
  rw [dp_star (by omega) (by omega) (decide_eq_true hs), ← h.below hi hi2 (by omega), hb]; rfl
theorem TJ.putB (h : TJs a b fl i k) (hp : a.length ≤ 39) (hn : b.length ≤ 39) (hi : 0 ≤ i) (hi2 : i < a.length) (hk : 0 ≤ k) (hk2 : k < b.length) (hs : a.getD i.toNat 0 = (42 : UInt8)) (hb : fl.getD ((i + 1).toNat * 40 + k.toNat) false = false) : TJs a b (fl.set (i.toNat * 40 + k.toNat) (fl.getD (i.toNat * 40 + (k + 1).toNat) false)) i (k - 1) := by
  refine h.put hp hn hi hi2 hk (by omega) ?_
  rw [dp_star (by omega) (by omega) (decide_eq_true hs), ← h.below hi hi2 (by omega), hb, h.right hi hi2 hk hk2, decide_eq_true (by omega)]; rfl
theorem TJ.putC (h : TJs a b fl i k) (hp : a.length ≤ 39) (hn : b.length ≤ 39) (hi : 0 ≤ i) (hi2 : i < a.length) (hk : 0 ≤ k) (hk2 : k ≤ b.length) (hk3 : ¬ k < b.length) (hs : a.getD i.toNat 0 = (42 : UInt8)) (hb : fl.getD ((i + 1).toNat * 40 + k.toNat) false = false) : TJs a b (fl.set (i.toNat * 40 + k.toNat) false) i (k - 1) := by
  refine h.put hp hn hi hi2 hk hk2 ?_
  rw [dp_star (by omega) (by omega) (decide_eq_true hs), ← h.below hi hi2 (by omega), hb, decide_eq_false (by omega)]; rfl
theorem TJ.putD (h : TJs a b fl i k) (hp : a.length ≤ 39) (hn : b.length ≤ 39) (hi : 0 ≤ i) (hi2 : i < a.length) (hk : 0 ≤ k) (hk2 : k < b.length) (hs : ¬ a.getD i.toNat 0 = (42 : UInt8)) (hb : fl.getD ((i + 1).toNat * 40 + (k + 1).toNat) false = true) : TJs a b (fl.set (i.toNat * 40 + k.toNat) (decide (a.getD i.toNat 0 = b.getD k.toNat 0))) i (k - 1) := by
  refine h.put hp hn hi hi2 hk (by omega) ?_
  rw [dp_one (by omega) (by omega) (decide_eq_false hs), show k.toNat + 1 = (k + 1).toNat by omega, ← h.below hi hi2 (by omega), hb, decide_eq_true (p := k.toNat < b.length) (by omega)]; rfl
theorem TJ.putE (h : TJs a b fl i k) (hp : a.length ≤ 39) (hn : b.length ≤ 39) (hi : 0 ≤ i) (hi2 : i < a.length) (hk : 0 ≤ k) (hk2 : k < b.length) (hs : ¬ a.getD i.toNat 0 = (42 : UInt8)) (hb : fl.getD ((i + 1).toNat * 40 + (k + 1).toNat) false = false) : TJs a b (fl.set (i.toNat * 40 + k.toNat) false) i (k - 1) := by
  refine h.put hp hn hi hi2 hk (by omega) ?_
  rw [dp_one (by omega) (by omega) (decide_eq_false hs), show k.toNat + 1 = (k + 1).toNat by omega, ← h.below hi hi2 (by omega), hb, decide_eq_true (p := k.toNat < b.length) (by omega)]; rfl
theorem TJ.putF (h : TJs a b fl i k) (hp : a.length ≤ 39) (hn : b.length ≤ 39) (hi : 0 ≤ i) (hi2 : i < a.length) (hk : 0 ≤ k) (hk2 : k ≤ b.length) (hk3 : ¬ k < b.length) (hs : ¬ a.getD i.toNat 0 = (42 : UInt8)) : TJs a b (fl.set (i.toNat * 40 + k.toNat) false) i (k - 1) := by
  refine h.put hp hn hi hi2 hk hk2 ?_
  rw [dp_one (by omega) (by omega) (decide_eq_false hs), decide_eq_false (p := k.toNat < b.length) (by omega)]; rfl
end
end R44
end Go.Proofs.YtmacopacmpgieaaGreatDoor
