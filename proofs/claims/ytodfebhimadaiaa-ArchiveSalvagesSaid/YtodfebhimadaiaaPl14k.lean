/- Pl14k: the frames of items by their numbers, and what is read from those that are kept. -/
import Derived.Test.YtodfebhimadaiaaFr14
import Derived.Test.YtodfebhimadaiaaPl14i
namespace Go.Proofs.Ytodfebhimadaiaa
open Go.GV
namespace R14
open Rd
def pc (t : Bytes) : List Frame := (List.range (chunks t)).map fun i => ⟨decide (i = 0), decide (t.length ≤ 56 * i + 56), sub t (56 * i) (min t.length (56 * i + 56))⟩
def pcs (l : List Bytes) : List Frame := l.flatMap pc
def lay (up : UInt32 → Bytes → UInt32) (F : List Frame) : List Bytes := F.mapIdx fun k f => frame up (k : Int) f.first f.last f.data
theorem pc_len (t : Bytes) : (pc t).length = chunks t := by unfold pc; rw [List.length_map, List.length_range]
theorem pc_get (t : Bytes) {i : Nat} (h : i < chunks t) : (pc t)[i]? = some ⟨decide (i = 0), decide (t.length ≤ 56 * i + 56), sub t (56 * i) (min t.length (56 * i + 56))⟩ := by
  unfold pc
  rw [List.getElem?_map, List.getElem?_range h]; rfl
theorem lay_len (up : UInt32 → Bytes → UInt32) (F : List Frame) : (lay up F).length = F.length := by unfold lay; rw [List.length_mapIdx]
theorem lay_item (up : UInt32 → Bytes → UInt32) (F : List Frame) (t : Bytes) : lay up F ++ itemF up F.length t = lay up (F ++ pc t) := by
  unfold lay
  rw [List.mapIdx_append]
  congr 1
  apply List.ext_getElem?
  intro i
  unfold itemF
  rw [List.getElem?_map, List.getElem?_mapIdx]
  by_cases h : i < chunks t
  · rw [pc_get t h, List.getElem?_range h]
    show some (chunk up F.length t i) = some (frame up ((i + F.length : Nat) : Int) _ _ _)
    rw [Nat.add_comm i]; rfl
  · rw [List.getElem?_eq_none (by rw [List.length_range]; omega), List.getElem?_eq_none (by rw [pc_len]; omega)]; rfl
theorem frames_go (up : UInt32 → Bytes → UInt32) : ∀ (l : List Bytes) (F : List Frame), l.foldl (fun acc s => acc ++ itemF up acc.length s) (lay up F) = lay up (F ++ pcs l)
  | [], F => by rw [List.foldl_nil, pcs, List.flatMap_nil, List.append_nil]
  | t :: l, F => by
    rw [List.foldl_cons, lay_len, lay_item, frames_go up l, pcs, pcs, List.flatMap_cons, List.append_assoc]
theorem frames_lay (up : UInt32 → Bytes → UInt32) (l : List Bytes) : frames up l = lay up (pcs l) := by
  have h := frames_go up l []
  rw [List.nil_append] at h
  exact h
def Lays (F : List Frame) : Prop := F.length ≤ 65536 ∧ ∀ f ∈ F, 1 ≤ f.data.length ∧ f.data.length ≤ 56
theorem pc_data {t : Bytes} : ∀ f ∈ pc t, 1 ≤ f.data.length ∧ f.data.length ≤ 56 := by
  intro f hf
  unfold pc at hf
  obtain ⟨i, hi, rfl⟩ := List.mem_map.1 hf
  rw [List.mem_range] at hi
  unfold chunks at hi
  show 1 ≤ (sub _ _ _).length ∧ (sub _ _ _).length ≤ 56
  rw [sub_length _ _ _ (Nat.min_le_left _ _)]
  omega
theorem pcs_data {l : List Bytes} : ∀ f ∈ pcs l, 1 ≤ f.data.length ∧ f.data.length ≤ 56 := by
  intro f hf
  unfold pcs at hf
  obtain ⟨t, _, h⟩ := List.mem_flatMap.1 hf
  exact pc_data f h
theorem pcs_len {l : List Bytes} (h : ∀ t ∈ l, t.length ≤ 1100) : (pcs l).length ≤ 20 * l.length := by
  induction l with
  | nil => exact Nat.le_refl _
  | cons t l ih =>
    have h1 := ih fun x hx => h x (by simp [hx])
    have h2 := chunks_le (h t (by simp))
    unfold pcs at h1 ⊢
    rw [List.flatMap_cons, List.length_append, pc_len, List.length_cons]; omega
section
variable {up : UInt32 → Bytes → UInt32} {F : List Frame} {k : Nat} {s : Bytes}
theorem flat64 : ∀ (l : List Bytes), (∀ x ∈ l, x.length = 64) → l.flatten.length = 64 * l.length ∧ ∀ k, k < l.length → blk l.flatten k = l.getD k []
  | [], _ => ⟨rfl, fun k h => by cases h⟩
  | a :: l, h => by
    obtain ⟨h1, h2⟩ := flat64 l fun x hx => h x (by simp [hx])
    have ha := h a (by simp)
    rw [List.flatten_cons]
    refine ⟨by rw [List.length_append, h1, ha, List.length_cons]; omega, fun k hk => ?_⟩
    cases k with
    | zero =>
      unfold blk sub
      show List.drop 0 (List.take 64 _) = a
      rw [List.drop_zero, List.take_append_of_le_length (by omega), List.take_of_length_le (by omega)]
    | succ k =>
      have := h2 k (by simpa using hk)
      rw [List.getD_cons_succ, ← this]
      unfold blk sub
      rw [show 64 * (k + 1) + 64 = 64 + (64 * k + 64) by omega, show 64 * (k + 1) = 64 + 64 * k by omega, ← ha, List.take_length_add_append, List.drop_length_add_append]
theorem lay64 (h : Lays F) : ∀ x ∈ lay up F, x.length = 64 := by
  intro x hx
  unfold lay at hx
  obtain ⟨i, hi, rfl⟩ := List.mem_iff_getElem.1 hx
  rw [List.getElem_mapIdx]
  rw [List.length_mapIdx] at hi
  have := h.2 _ (List.getElem_mem hi)
  have := h.1
  exact frame_len (by omega)
theorem lay_get (hk : k < F.length) : (lay up F).getD k [] = frame up (k : Int) F[k].first F[k].last F[k].data := by
  unfold lay
  rw [List.getD_eq_getElem?_getD, List.getElem?_mapIdx, List.getElem?_eq_getElem hk]; rfl
theorem lay_len64 (h : Lays F) : (lay up F).flatten.length = 64 * F.length := by rw [(flat64 _ (lay64 h)).1, lay_len]
theorem lay_blk (h : Lays F) (hk : k < F.length) : blk (lay up F).flatten k = frame up (k : Int) F[k].first F[k].last F[k].data := by
  rw [(flat64 _ (lay64 h)).2 k (by rw [lay_len]; exact hk), lay_get hk]
theorem rf_frame {n : Int} {a b : Bool} {d : Bytes} (h : ¬ (n < 0 ∨ 65535 < n ∨ d.length < 1 ∨ 56 < d.length)) : rfE up (frame up n a b d) = 0 ∧ rfN up (frame up n a b d) = n ∧ rfA up (frame up n a b d) = a ∧ rfB up (frame up n a b d) = b ∧ rfD up (frame up n a b d) = d := by
  obtain ⟨h1, h2, h3, h4, h5⟩ := read_back (up := up) (a := a) (b := b) h
  unfold rfE rfN rfA rfB rfD
  rw [h5]
  exact ⟨rfl, h1, h2, h3, h4⟩
theorem lay_ok (h : Lays F) (hk : k < F.length) : ¬ ((k : Int) < 0 ∨ 65535 < (k : Int) ∨ F[k].data.length < 1 ∨ 56 < F[k].data.length) := by
  have := h.2 _ (List.getElem_mem hk)
  have := h.1
  omega
def kept (F : List Frame) (K : Nat → Bool) (n : Int) : Option Frame := if 0 ≤ n ∧ K n.toNat = true then F[n.toNat]? else none
theorem kept_at {K : Nat → Bool} (n : Nat) : kept F K (n : Int) = if K n = true then F[n]? else none := by
  unfold kept
  simp only [Int.natCast_nonneg, Int.toNat_natCast, true_and]
theorem kept_small {K : Nat → Bool} (h : Lays F) : Small (kept F K) := by
  intro n f hf
  unfold kept at hf
  split at hf
  · rename_i hc
    obtain ⟨hn, he⟩ := List.getElem?_eq_some_iff.1 hf
    have := h.1
    exact ⟨hc.1, by omega, he ▸ (h.2 _ (List.getElem_mem hn)).2⟩
  · cases hf
theorem coll_lay (h : Lays F) : ∀ k, k ≤ F.length → ∀ n : Int, lkF (coll up (lay up F).flatten k) n = kept F (fun i => decide (i < k)) n
  | 0, _, n => by
    unfold kept
    rw [if_neg (fun h => by simp at h)]; rfl
  | k + 1, hk, n => by
    have ih := coll_lay h k (by omega)
    have hl : k < F.length := by omega
    obtain ⟨h1, h2, h3, h4, h5⟩ := rf_frame (up := up) (a := F[k].first) (b := F[k].last) (lay_ok h hl)
    have hb := lay_blk (up := up) h hl
    have hz : (lkF (coll up (lay up F).flatten k) (k : Int)).isSome = false := by
      rw [ih, kept_at, if_neg (by simp)]; rfl
    show lkF (stepF up _ (blk _ k)) n = _
    unfold stepF
    rw [hb, h2, if_pos ⟨h1, hz⟩, lkF_append, ih]
    unfold fr
    rw [h3, h4, h5]
    by_cases hn : n = (k : Int)
    · subst hn
      rw [kept_at, kept_at, if_neg (by simp), if_pos rfl, if_pos (c := decide (k < k + 1) = true) (by simp), List.getElem?_eq_getElem hl]
    · rw [if_neg hn]
      by_cases h0 : 0 ≤ n
      · obtain ⟨j, rfl⟩ := Int.eq_ofNat_of_zero_le h0
        rw [kept_at, kept_at]
        have hj : j ≠ k := fun e => hn (by rw [e])
        by_cases hj2 : j < k
        · rw [if_pos (by simpa using hj2), if_pos (by simp; omega)]
          cases F[j]? <;> rfl
        · rw [if_neg (by simpa using hj2), if_neg (by simp; omega)]
      · unfold kept
        rw [if_neg (fun h => h0 h.1), if_neg (fun h => h0 h.1)]
theorem sv_lay (h : Lays F) : lkF (sv up (lay up F).flatten) = kept F (fun _ => true) := by
  funext n
  unfold sv
  rw [lay_len64 h, Nat.mul_div_cancel_left _ (by decide), coll_lay h _ (Nat.le_refl _)]
  unfold kept
  by_cases h0 : 0 ≤ n
  · by_cases h1 : n.toNat < F.length
    · rw [if_pos ⟨h0, by simpa using h1⟩, if_pos ⟨h0, rfl⟩]
    · rw [if_neg (fun h => h1 (by simpa using h.2)), if_pos ⟨h0, rfl⟩, List.getElem?_eq_none (by omega)]
  · rw [if_neg (fun h => h0 h.1), if_neg (fun h => h0 h.1)]
end
end R14
end Go.Proofs.Ytodfebhimadaiaa
