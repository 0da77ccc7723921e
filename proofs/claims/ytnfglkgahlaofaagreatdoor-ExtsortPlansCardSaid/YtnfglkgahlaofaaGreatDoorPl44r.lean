/- Pl44r: sorting without exits; sorted lists, merged, are all of them sorted. -/
import Derived.Test.YtnfglkgahlaofaaGreatDoorAll25
set_option linter.unusedVariables false
set_option linter.unusedSimpArgs false
namespace Go.Proofs.YtnfglkgahlaofaaGreatDoor
open Go.GV
namespace Srt
variable {α : Type} {c : α → α → Int}
end Srt
open Srt (Cmp)
namespace R44
theorem sv_plain {l : List SortField} {m fan a b d e : Int} {rs out : List Bytes} (hv : valid l = true) (hm : 1 ≤ m) (hm2 : m ≤ 1024) (hf : 2 ≤ fan) (hf2 : fan ≤ 16) (hl : rs.length ≤ 1024) (hs : ∀ i, (rs.getD i []).length ≤ 1000)
    (h : (out, SortWork.mk a b d, e) = sortV l m fan idF noF rs) : out = Srt.srt (cmpL l) rs ∧ e = 0 ∧ a = ((Srt.runs (cmpL l) m.toNat rs).length : Int) ∧ b = ((Srt.rounds (cmpL l) fan.toNat (Srt.runs (cmpL l) m.toNat rs)).2 : Int) ∧ d = 0 := by
  have h1 : g1 l m fan = false := by
    unfold g1
    simp only [hv, Bool.not_true, Bool.or_eq_false_iff, decide_eq_false_iff_not, true_and]
    omega
  have h2 : g2 rs = false := by
    unfold g2
    rw [Bool.or_eq_false_iff]
    exact ⟨decide_eq_false (by omega), (long_none fun i _ => hs i).symm⟩
  unfold sortV at h
  rw [if_neg (by rw [h1]; decide), if_neg (by rw [h2]; decide), ← inR_id h2, if_neg (by simp), ← sums_no, if_neg (by simp)] at h
  simp only [Srt.srt_len, Int.sub_self] at h
  cases h
  exact ⟨rfl, rfl, rfl, rfl, rfl⟩
theorem few_plain {rs : List Bytes} {n : Int} (h : few rs n = true) (hn : n ≤ 1024) : rs.length ≤ 1024 ∧ ∀ i, (rs.getD i []).length ≤ 1000 := by
  have := few_facts h
  exact ⟨by omega, fun i => by have := this.2 i; omega⟩
end R44
end Go.Proofs.YtnfglkgahlaofaaGreatDoor
namespace Go.GV
theorem ron_snoc1 {α : Type} [Inhabited α] {S : List Nat} {w : World} {fA : α → Option Addr} {fl : α → List Value} {a : α} {l : List α} (h : ∀ i : Nat, RO S w (fA (l.getD i default)) (fl (l.getD i default))) (h2 : RO S w (fA a) (fl a)) (i : Nat) : RO S w (fA ((l ++ [a]).getD i default)) (fl ((l ++ [a]).getD i default)) := by
  rcases Nat.lt_trichotomy i l.length with hi | hi | hi
  · have := h i
    rwa [List.getD_eq_getElem?_getD, ← List.getElem?_append_left (l₂ := [a]) hi, ← List.getD_eq_getElem?_getD] at this
  · subst hi
    rw [List.getD_eq_getElem?_getD, List.getElem?_append_right (Nat.le_refl _), Nat.sub_self]
    exact h2
  · have := h i
    rw [List.getD_eq_getElem?_getD, List.getElem?_eq_none (by omega)] at this
    rw [List.getD_eq_getElem?_getD, List.getElem?_eq_none (by simp; omega)]
    exact this
end Go.GV
namespace Go.Proofs.YtnfglkgahlaofaaGreatDoor
open Go.GV
namespace R44
structure MgJ (l : List SortField) (sorted : List Rw) (all : List Bytes) (k : Nat) : Prop where
  eq : all = (sorted.map Rw.s).flatten
  ord : ∀ x ∈ sorted.map Rw.s, Srt.Ordered (cmpL l) x
  cap : ∀ i, (sorted.getD i default).s.length ≤ (sorted.getD i default).sC
  short : ∀ i j, ((sorted.getD i default).s.getD j []).length ≤ 60
  len : sorted.length = k
  al : all.length ≤ 10 * k
  shortA : ∀ i, (all.getD i []).length ≤ 60
theorem MgJ.start {l : List SortField} : MgJ l [] [] 0 := ⟨rfl, fun _ h => (by cases h), fun _ => Nat.le_refl _, fun _ _ => Nat.zero_le _, rfl, Nat.le_refl _, fun _ => Nat.zero_le _⟩
theorem getD_app {α : Type} {l m : List α} {d : α} {p : α → Prop} (h : ∀ i, p (l.getD i d)) (h2 : ∀ i, p (m.getD i d)) (i : Nat) : p ((l ++ m).getD i d) := by
  by_cases hi : i < l.length
  · have := h i
    rwa [List.getD_eq_getElem?_getD, ← List.getElem?_append_left (l₂ := m) hi, ← List.getD_eq_getElem?_getD] at this
  · have := h2 (i - l.length)
    rwa [List.getD_eq_getElem?_getD, ← List.getElem?_append_right (l₁ := l) (by omega), ← List.getD_eq_getElem?_getD] at this
theorem getD_one {α : Type} {d x : α} {p : α → Prop} (h : p x) (h2 : p d) : ∀ i : Nat, p ([x].getD i d)
  | 0 => h
  | _ + 1 => h2
theorem few_short {rs : List Bytes} {n : Int} (h : few rs n = true) {out : List Bytes} (hp : out.Perm rs) (i : Nat) : (out.getD i []).length ≤ 60 := by
  by_cases hi : i < out.length
  · obtain ⟨j, hj, e⟩ := getD_ex (d := []) (hp.mem_iff.1 (getD_mem (d := []) hi))
    rw [← e]; exact (few_facts h).2 j
  · rw [List.getD_eq_getElem?_getD, List.getElem?_eq_none (by omega)]; exact Nat.zero_le _
theorem MgJ.step {l : List SortField} {sorted : List Rw} {all rs out : List Bytes} {k C : Nat} {A : Option Addr} {a b d e : Int} (h : MgJ l sorted all k) (hf : few rs 10 = true) (hv : valid l = true) (hs : (out, SortWork.mk a b d, e) = sortV l 5 2 idF noF rs) (hc : out.length ≤ C) : MgJ l (sorted ++ [Rw.mk out A C]) (all ++ out) (k + 1) := by
  have hp := few_plain hf (by decide)
  have hq := (sv_plain hv (by decide) (by decide) (by decide) (by decide) hp.1 hp.2 hs).1
  have hpm : out.Perm rs := by rw [hq]; exact Srt.srt_perm rs
  have hl := (few_facts hf).1
  have hl2 := hpm.length_eq
  have hal := h.al
  refine ⟨?_, ?_, getD_app (p := fun r : Rw => r.s.length ≤ r.sC) h.cap (getD_one (p := fun r : Rw => r.s.length ≤ r.sC) hc (Nat.le_refl _)), getD_app (p := fun r : Rw => ∀ j, (r.s.getD j []).length ≤ 60) h.short (getD_one (p := fun r : Rw => ∀ j, (r.s.getD j []).length ≤ 60) (fun j => few_short hf hpm j) (fun _ => Nat.zero_le _)), ?_, ?_, ?_⟩
  · rw [List.map_append, List.flatten_append, ← h.eq]; simp
  · intro x hx
    rw [List.map_append, List.mem_append] at hx
    rcases hx with hx | hx
    · exact h.ord x hx
    · rw [List.map_cons, List.map_nil, List.mem_singleton] at hx
      have hx2 : x = out := hx
      rw [hx2, hq]; exact Srt.srt_ordered (cmpL_ok l) rs
  · rw [List.length_append, h.len]; rfl
  · rw [List.length_append]; omega
  · exact getD_app (p := fun r : Bytes => r.length ≤ 60) h.shortA (fun i => few_short hf hpm i)
theorem MgJ.bad {l : List SortField} {rs out : List Bytes} {a b d e : Int} (hf : few rs 10 = true) (hv : valid l = true) (hs : (out, SortWork.mk a b d, e) = sortV l 5 2 idF noF rs) (he : e ≠ 0) : False := by
  have hp := few_plain hf (by decide)
  exact he (sv_plain hv (by decide) (by decide) (by decide) (by decide) hp.1 hp.2 hs).2.1
theorem MgJ.law {l : List SortField} {sorted : List Rw} {all out : List Bytes} {k : Nat} {a b d e : Int} (h : MgJ l sorted all k) (hk : k ≤ 6) (hv : valid l = true) (hs : (out, SortWork.mk a b d, e) = sortV l 5 2 idF noF all) : ((decide (e = 0)) && (decide (mergeV l (sorted.map Rw.s) = out))) = true := by
  have hal := h.al
  have hq := sv_plain hv (by decide) (by decide) (by decide) (by decide) (by omega) (fun i => by have := h.shortA i; omega) hs
  have e2 : mergeV l (sorted.map Rw.s) = out := by
    unfold mergeV
    rw [if_pos hv, Srt.merge_sorts (cmpL_ok l) h.ord, hq.1, ← h.eq]
  rw [e2, hq.2.1]; simp
end R44
end Go.Proofs.YtnfglkgahlaofaaGreatDoor
