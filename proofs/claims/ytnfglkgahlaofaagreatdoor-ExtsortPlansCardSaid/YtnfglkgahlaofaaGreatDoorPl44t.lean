/- Pl44t: the places of sorted records: each record is found again behind the one before. -/
import Derived.Test.YtnfglkgahlaofaaGreatDoorPl44s
set_option linter.unusedVariables false
set_option linter.unusedSimpArgs false
namespace Go.Proofs.YtnfglkgahlaofaaGreatDoor
open Go.GV
namespace R44
def TT (l : List SortField) (rs : List Bytes) : List (Bytes × Nat) := Srt.srt (Srt.tc (cmpL l)) rs.zipIdx
def Px (l : List SortField) (rs : List Bytes) (i : Nat) : Nat := ((TT l rs).getD i default).2
section
variable {l : List SortField} {rs x used us : List Bytes} {i j k kk : Nat}
theorem T_fst : (TT l rs).map Prod.fst = Srt.srt (cmpL l) rs := by
  have := Srt.srt_map (c := cmpL l) Prod.fst rs.zipIdx
  rw [List.zipIdx_map_fst] at this
  exact this.symm
theorem T_len : (TT l rs).length = rs.length := by unfold TT; rw [Srt.srt_len, List.length_zipIdx]
theorem T_lt : (TT l rs).Pairwise (Srt.lt (cmpL l)) := Srt.foldl_lt (cmpL_ok l) rs.zipIdx [] (Srt.zip_tags rs 0) (fun _ _ _ hy => (by cases hy)) .nil
theorem x_at (hx : x = Srt.srt (cmpL l) rs) (i : Nat) : x.getD i [] = ((TT l rs).getD i default).1 := by
  rw [hx, ← T_fst, List.getD_eq_getElem?_getD, List.getD_eq_getElem?_getD, List.getElem?_map]
  cases (TT l rs)[i]? <;> rfl
theorem P_at (hx : x = Srt.srt (cmpL l) rs) (hi : i < rs.length) : Px l rs i < rs.length ∧ rs.getD (Px l rs i) [] = x.getD i [] := by
  have hm : (TT l rs).getD i default ∈ rs.zipIdx := Srt.srt_mem.1 (getD_mem (d := default) (by show i < (TT l rs).length; rw [T_len]; exact hi))
  have h := List.mem_zipIdx (x := ((TT l rs).getD i default).1) (i := ((TT l rs).getD i default).2) hm
  have h1 : Px l rs i < rs.length := by unfold Px; omega
  refine ⟨h1, ?_⟩
  rw [x_at hx, h.2.2, List.getD_eq_getElem?_getD, List.getElem?_eq_getElem h1]
  rfl
theorem P_sur (hk : k < rs.length) : ∃ j, j < rs.length ∧ Px l rs j = k := by
  have hm : (rs[k], k) ∈ rs.zipIdx := by
    rw [List.mem_iff_getElem]
    exact ⟨k, by rw [List.length_zipIdx]; exact hk, by simp⟩
  obtain ⟨j, hj, e⟩ := getD_ex (d := default) ((Srt.srt_mem (c := Srt.tc (cmpL l))).2 hm)
  refine ⟨j, by rw [← T_len (l := l)]; exact hj, ?_⟩
  show ((TT l rs).getD j default).2 = k
  have e2 : (TT l rs).getD j default = (rs[k], k) := e
  rw [e2]
theorem P_mono (hx : x = Srt.srt (cmpL l) rs) (hij : i < j) (hj : j < rs.length) : cmpL l (x.getD i []) (x.getD j []) < 0 ∨ (cmpL l (x.getD i []) (x.getD j []) = 0 ∧ Px l rs i < Px l rs j) := by
  have hl := T_len (l := l) (rs := rs)
  have h := List.pairwise_iff_getElem.1 (T_lt (l := l) (rs := rs)) i j (by omega) (by omega) hij
  rw [x_at hx, x_at hx]
  unfold Px
  rw [List.getD_eq_getElem?_getD, List.getD_eq_getElem?_getD, List.getElem?_eq_getElem (by omega), List.getElem?_eq_getElem (by omega)]
  exact h
theorem cmp_self (l : List SortField) (a : Bytes) : cmpL l a a = 0 := by have := (cmpL_ok l).anti a a; omega
theorem P_new (hx : x = Srt.srt (cmpL l) rs) (hji : j < i) (hi : i < rs.length) : Px l rs j ≠ Px l rs i := fun e => by
  have h1 := (P_at hx (i := j) (by omega)).2
  have h2 := (P_at hx hi).2
  rw [e, h2] at h1
  rcases P_mono hx hji hi with h | h
  · rw [← h1, cmp_self] at h; omega
  · omega
theorem P_key (hx : x = Srt.srt (cmpL l) rs) (hi : i < rs.length) (hk : k < rs.length) (he : rs.getD k [] = x.getD i []) (hu : ∀ j, j < i → Px l rs j ≠ k) : Px l rs i ≤ k := by
  obtain ⟨j, hj, e⟩ := P_sur (l := l) hk
  rcases Nat.lt_trichotomy j i with h | h | h
  · exact absurd e (hu j h)
  · subst h; omega
  · have h1 := (P_at hx hj).2
    rw [e, he] at h1
    rcases P_mono hx h hj with h2 | h2
    · rw [← h1, cmp_self] at h2; omega
    · omega
end
structure PlJ (l : List SortField) (rs : List Bytes) (i : Nat) (used : List Bool) (last : Int) : Prop where
  ul : used.length = rs.length
  us : ∀ k, k < rs.length → (used.getD k false = true ↔ ∃ j, j < i ∧ Px l rs j = k)
  la : last = if i = 0 then -1 else (Px l rs (i - 1) : Int)
  bd : i ≤ rs.length
structure PlK (l : List SortField) (rs : List Bytes) (i : Nat) (used : List Bool) (kk : Nat) (found : Bool) (us : List Bool) (la : Int) : Prop where
  no : found = false → us = used ∧ kk ≤ Px l rs i
  yes : found = true → us = used.set (Px l rs i) true ∧ la = (Px l rs i : Int)
  ul : us.length = rs.length
section
variable {l : List SortField} {rs x : List Bytes} {used us : List Bool} {i kk : Nat} {last la : Int} {found : Bool}
theorem PlJ.start : PlJ l rs 0 (List.replicate rs.length false) (-1) := by
  refine ⟨List.length_replicate, fun k hk => ⟨fun h => ?_, fun ⟨j, hj, _⟩ => (by omega)⟩, rfl, Nat.zero_le _⟩
  rw [List.getD_eq_getElem?_getD, List.getElem?_replicate] at h
  split at h <;> cases h
theorem PlJ.lo (h : PlJ l rs i used last) : -1 ≤ last ∧ last < rs.length := by
  have h1 := h.la
  have h2 := h.bd
  split at h1
  · omega
  · have := (P_at (l := l) (rs := rs) rfl (i := i - 1) (by omega)).1
    omega
theorem PlJ.lend (h : PlJ l rs i used last) (b : Bool) : -1 ≤ (if b = true then (-1 : Int) else last) ∧ (if b = true then (-1 : Int) else last) < rs.length := by
  have := h.lo
  split <;> omega
theorem PlK.start (h : PlJ l rs i used last) (hx : x = Srt.srt (cmpL l) rs) (hv : valid l = true) (hi : i < rs.length) {b : Bool} (hb : b = ((decide ((0 : Int) < ((i : Nat) : Int))) && (decide (cmpV l (x.getD (i - 1) []) (x.getD i []) < 0)))) :
    PlK l rs i used ((if b = true then (-1 : Int) else last) + 1).toNat false used (if b = true then (-1 : Int) else last) := by
  refine ⟨fun _ => ⟨rfl, ?_⟩, fun h => (by cases h), h.ul⟩
  have hla := h.la
  split
  · exact Nat.zero_le _
  · rename_i hn
    by_cases h0 : i = 0
    · rw [if_pos h0] at hla; omega
    · rw [if_neg h0] at hla
      rw [hb, cmpV_eq hv] at hn
      rcases P_mono hx (i := i - 1) (j := i) (by omega) hi with h1 | h1
      · exact absurd (by simp only [Bool.and_eq_true, decide_eq_true_eq]; omega) hn
      · omega
theorem PlK.hit (h : PlK l rs i used kk found us la) (hJ : PlJ l rs i used last) (hx : x = Srt.srt (cmpL l) rs) (hi : i < rs.length) (hf : found = false) (hk : kk < rs.length) (he : rs.getD kk [] = x.getD i []) (hu : us.getD kk false = false) : PlK l rs i used (kk + 1) true (us.set kk true) ((kk : Nat) : Int) := by
  obtain ⟨h1, h2⟩ := h.no hf
  have h3 := P_key hx hi hk he fun j hj e => by
    have := (hJ.us kk hk).2 ⟨j, hj, e⟩
    rw [← h1, hu] at this; cases this
  have h4 : kk = Px l rs i := by omega
  exact ⟨fun h => (by cases h), fun _ => ⟨by rw [h4, h1], by rw [h4]⟩, by rw [List.length_set]; exact h.ul⟩
theorem PlK.skip (h : PlK l rs i used kk found us la) (hJ : PlJ l rs i used last) (hx : x = Srt.srt (cmpL l) rs) (hi : i < rs.length) (hf : found = false) (hk : kk < rs.length) (hn : ((decide (rs.getD kk [] = x.getD i [])) && (!((us.getD kk false)))) = false) : PlK l rs i used (kk + 1) found us la := by
  obtain ⟨h1, h2⟩ := h.no hf
  refine ⟨fun _ => ⟨h1, ?_⟩, fun h => (by rw [hf] at h; cases h), h.ul⟩
  rcases Nat.lt_or_ge kk (Px l rs i) with h3 | h3
  · exact h3
  · exfalso
    have h4 : kk = Px l rs i := by omega
    have h5 := (P_at hx hi).2
    have h6 : us.getD kk false = false := by
      cases hb : us.getD kk false with
      | false => rfl
      | true =>
        rw [h1] at hb
        obtain ⟨j, hj, e⟩ := (hJ.us kk hk).1 hb
        exact absurd (e.trans h4) (P_new hx hj hi)
    rw [h6, h4, h5] at hn
    simp at hn
theorem PlK.bad (h : PlK l rs i used kk found us la) (hi : i < rs.length) (hf : found = false) (hk : rs.length ≤ kk) : False := by
  have h1 := (h.no hf).2
  have h2 := (P_at (l := l) (rs := rs) rfl hi).1
  omega
theorem PlK.done (h : PlK l rs i used kk found us la) (hJ : PlJ l rs i used last) (hi : i < rs.length) (hf : found = true) : PlJ l rs (i + 1) us la := by
  obtain ⟨h1, h2⟩ := h.yes hf
  refine ⟨h.ul, fun k hk => ?_, by rw [if_neg (by omega), h2]; rfl, by omega⟩
  rw [h1, List.getD_eq_getElem?_getD, List.getElem?_set]
  by_cases e : Px l rs i = k
  · rw [if_pos e, if_pos (by rw [hJ.ul]; omega)]
    exact ⟨fun _ => ⟨i, by omega, e⟩, fun _ => rfl⟩
  · rw [if_neg e, ← List.getD_eq_getElem?_getD, hJ.us k hk]
    constructor
    · rintro ⟨j, hj, e2⟩; exact ⟨j, by omega, e2⟩
    · rintro ⟨j, hj, e2⟩
      rcases Nat.lt_or_ge j i with h3 | h3
      · exact ⟨j, h3, e2⟩
      · have : j = i := by omega
        subst this; exact absurd e2 e
end
theorem sv_few {l : List SortField} (m fan : Int) {a b d e : Int} {rs out : List Bytes} (hw : few rs 40 = true) (hv : valid l = true) (hm : 1 ≤ m) (hm2 : m ≤ 60) (hf : 2 ≤ fan) (hf2 : fan ≤ 16) (h : (out, SortWork.mk a b d, e) = sortV l m fan idF noF rs) : out = Srt.srt (cmpL l) rs ∧ e = 0 ∧ d = 0 ∧ out.length = rs.length := by
  have hp := few_plain hw (by decide)
  have hs := sv_plain hv hm (by omega) hf hf2 hp.1 hp.2 h
  exact ⟨hs.1, hs.2.1, hs.2.2.2.2, by rw [hs.1, Srt.srt_len]⟩
theorem plans_0 {x y S rs : List Bytes} {e e2 d d2 : Int} (hw : (((((decide (e ≠ 0)) || (decide (e2 ≠ 0))) || (!(decide (x = y)))) || (decide (((x.length : Nat) : Int) ≠ ((rs.length : Nat) : Int)))) || (decide (d + d2 ≠ 0))) = true) (h1 : x = S ∧ e = 0 ∧ d = 0 ∧ x.length = rs.length) (h2 : y = S ∧ e2 = 0 ∧ d2 = 0 ∧ y.length = rs.length) : False := by
  obtain ⟨rfl, rfl, rfl, h3⟩ := h1
  obtain ⟨rfl, rfl, rfl, _⟩ := h2
  rw [h3] at hw
  simp at hw
theorem plans_ord {l : List SortField} {rs x : List Bytes} {i : Nat} (hv : valid l = true) (hx : x = Srt.srt (cmpL l) rs) (h0 : 1 ≤ i) (hi : i < x.length) : cmpV l (x.getD (i - 1) []) (x.getD i []) ≤ 0 := by
  rw [cmpV_eq hv]
  exact ordered_at (by rw [hx]; exact Srt.srt_ordered (cmpL_ok l) rs) h0 hi
theorem sorted_short {l : List SortField} {rs x : List Bytes} (hw : few rs 40 = true) (hx : x = Srt.srt (cmpL l) rs) (i : Nat) : (x.getD i []).length ≤ 60 := few_short hw (by rw [hx]; exact Srt.srt_perm rs) i
end R44
end Go.Proofs.YtnfglkgahlaofaaGreatDoor
