/- Pl44s: runs, passes: what the law on long runs says. -/
import Derived.Test.YtnfglkgahlaofaaGreatDoorPl44r
set_option linter.unusedVariables false
set_option linter.unusedSimpArgs false
namespace Go.Proofs.YtnfglkgahlaofaaGreatDoor
open Go.GV
namespace R44
structure RunsF (l : List SortField) (m : Int) (rs : List Bytes) (r : List Rw) : Prop where
  ne : ∀ k, k < r.length → 0 < (r.getD k default).s.length
  long : ∀ k, k + 1 < r.length → m ≤ ((r.getD k default).s.length : Int)
  ord : ∀ k j, 1 ≤ j → j < (r.getD k default).s.length → cmpV l ((r.getD k default).s.getD (j - 1) []) ((r.getD k default).s.getD j []) ≤ 0
  short : ∀ k j, ((r.getD k default).s.getD j []).length ≤ 60
  sum : ∀ k, ((r.map Rw.s).take k).flatten.length ≤ rs.length
  all : (r.map Rw.s).flatten.length = rs.length
  each : r.length ≤ rs.length ∧ ∀ i, (r.getD i default).s.length ≤ rs.length
theorem ordered_at {c : Bytes → Bytes → Int} {s : List Bytes} (h : Srt.Ordered c s) {j : Nat} (h1 : 1 ≤ j) (h2 : j < s.length) : c (s.getD (j - 1) []) (s.getD j []) ≤ 0 := by
  have := List.pairwise_iff_getElem.1 h (j - 1) j (by omega) h2 (by omega)
  rw [List.getD_eq_getElem?_getD, List.getD_eq_getElem?_getD, List.getElem?_eq_getElem (by omega), List.getElem?_eq_getElem h2]
  exact this
theorem runsF {l : List SortField} {m n : Int} {rs : List Bytes} {r : List Rw} (hv : valid l = true) (hm : 1 ≤ m) (hf : few rs n = true) (h : r.map Rw.s = runsV l m rs) : RunsF l m rs r := by
  have he := runs_each h
  have hc := cmpL_ok l
  have hM : 0 < m.toNat := by omega
  unfold runsV at h
  rw [if_pos ⟨hm, hv⟩] at h
  have hmem : ∀ k, k < r.length → (r.getD k default).s ∈ Srt.runs (cmpL l) m.toNat rs := fun k hk => by
    rw [← h]; exact List.mem_map_of_mem (getD_mem hk)
  have hpm : (r.map Rw.s).flatten.Perm rs := by rw [h]; exact Srt.runs_perm hc hM rs
  have hcv : cmpV l = cmpL l := cmpV_eq hv
  refine ⟨fun k hk => ?_, fun k hk => ?_, fun k j h1 h2 => ?_, fun k j => ?_, fun k => ?_, hpm.length_eq, he⟩
  · exact List.length_pos_iff.2 (Srt.runs_ne hc hM rs _ (hmem k hk))
  · have hk2 : k + 1 < (Srt.runs (cmpL l) m.toNat rs).length := by rw [← h, List.length_map]; exact hk
    have := Srt.runs_long hc hM rs hk2
    rw [← h, List.getD_eq_getElem?_getD, List.getElem?_map, List.getElem?_eq_getElem (by omega)] at this
    have e : (r.getD k default).s = (Option.map Rw.s (some r[k])).getD [] := by rw [List.getD_eq_getElem?_getD, List.getElem?_eq_getElem (by omega)]; rfl
    rw [e]
    omega
  · have hk : k < r.length := by
      rcases Nat.lt_or_ge k r.length with hk | hk
      · exact hk
      · rw [getD_out hk] at h2; cases h2
    rw [hcv]
    exact ordered_at (Srt.runs_ordered hc hM rs _ (hmem k hk)) h1 h2
  · by_cases hk : k < r.length
    · by_cases hj : j < (r.getD k default).s.length
      · have hm1 : (r.getD k default).s.getD j [] ∈ (r.map Rw.s).flatten := List.mem_flatten.2 ⟨(r.getD k default).s, List.mem_map_of_mem (getD_mem hk), getD_mem hj⟩
        obtain ⟨i, hi, e⟩ := getD_ex (d := []) (hpm.mem_iff.1 hm1)
        rw [← e]; exact (few_facts hf).2 i
      · rw [List.getD_eq_getElem?_getD, List.getElem?_eq_none (by omega)]; exact Nat.zero_le _
    · rw [getD_out (by omega)]; exact Nat.zero_le _
  · rw [← hpm.length_eq, ← List.take_append_drop k (r.map Rw.s)]
    rw [List.flatten_append, List.length_append, List.take_append_drop]
    omega
theorem sum_next {r : List Rw} {k : Nat} (hk : k < r.length) : ((r.map Rw.s).take (k + 1)).flatten.length = ((r.map Rw.s).take k).flatten.length + (r.getD k default).s.length := by
  rw [List.take_add_one, List.getElem?_map, List.getElem?_eq_getElem hk, List.flatten_append, List.length_append, List.getD_eq_getElem?_getD, List.getElem?_eq_getElem hk]
  simp
theorem pow_next (f : Int) (i : Nat) : f ^ (i + 1) = f ^ i * f := Int.pow_succ f i
theorem pow_bdN : ∀ (i : Nat) (f : Int), 2 ≤ f → f ≤ 16 → 0 ≤ f ^ i ∧ f ^ i ≤ 16 ^ i
  | 0, f, _, _ => by rw [Int.pow_zero, Int.pow_zero]; decide
  | i + 1, f, h1, h2 => by
    have ih := pow_bdN i f h1 h2
    rw [pow_next, pow_next]
    exact ⟨Int.mul_nonneg ih.1 (by omega), Int.mul_le_mul ih.2 h2 (by omega) (by have := ih.2; omega)⟩
theorem pow_bd {f : Int} {i : Nat} (h1 : 2 ≤ f) (h2 : f ≤ 16) (hi : i ≤ 6) : f ^ i * f ≤ 268435456 ∧ 0 ≤ f ^ i * f ∧ 0 ≤ f ^ i ∧ f ^ i ≤ 16777216 := by
  have a := pow_bdN i f h1 h2
  have b := pow_bdN (i + 1) f h1 h2
  rw [pow_next] at b
  have c : (16 : Int) ^ i ≤ 16 ^ 6 := by
    rcases (by omega : i = 0 ∨ i = 1 ∨ i = 2 ∨ i = 3 ∨ i = 4 ∨ i = 5 ∨ i = 6) with rfl | rfl | rfl | rfl | rfl | rfl | rfl <;> decide
  have d : (16 : Int) ^ (i + 1) ≤ 16 ^ 7 := by
    rcases (by omega : i = 0 ∨ i = 1 ∨ i = 2 ∨ i = 3 ∨ i = 4 ∨ i = 5 ∨ i = 6) with rfl | rfl | rfl | rfl | rfl | rfl | rfl <;> decide
  have c2 : (16 : Int) ^ 6 = 16777216 := by decide
  have d2 : (16 : Int) ^ 7 = 268435456 := by decide
  omega
theorem passes_few {f n : Nat} (hf : 2 ≤ f) (hn : n ≤ 40) : Srt.passes f n n ≤ 6 := by
  rcases (Srt.passes_bounds hf n n (Nat.le_refl _)).2 with h | h
  · omega
  · rcases Nat.lt_or_ge 6 (Srt.passes f n n) with h2 | h2
    · have h3 : 2 ^ 6 ≤ 2 ^ (Srt.passes f n n - 1) := Nat.pow_le_pow_right (by decide) (by omega)
      have h4 : 2 ^ (Srt.passes f n n - 1) ≤ f ^ (Srt.passes f n n - 1) := Nat.pow_le_pow_left hf _
      omega
    · exact h2
structure LongF (l : List SortField) (fan : Int) (rs : List Bytes) (r : List Rw) (out : List Bytes) (a b e : Int) : Prop where
  out : out = Srt.srt (cmpL l) rs
  e : e = 0
  a : a = (r.length : Int)
  b0 : 0 ≤ b
  b6 : b ≤ 6
  le : (r.length : Int) ≤ fan ^ b.toNat
  lt : b = 0 ∨ fan ^ (b.toNat - 1) < (r.length : Int)
theorem longF {l : List SortField} {m fan a b d e : Int} {rs out : List Bytes} {r : List Rw} (hv : valid l = true) (hm : 1 ≤ m) (hm2 : m ≤ 60) (hf : 2 ≤ fan) (hf2 : fan ≤ 16) (hw : few rs 40 = true) (hr : r.map Rw.s = runsV l m rs) (h : (out, SortWork.mk a b d, e) = sortV l m fan idF noF rs) : LongF l fan rs r out a b e := by
  have hp := few_plain hw (by decide)
  have hs := sv_plain hv hm (by omega) hf hf2 hp.1 hp.2 h
  have he := (runs_each hr).1
  have hl := (few_facts hw).1
  unfold runsV at hr
  rw [if_pos ⟨hm, hv⟩] at hr
  have hrl : (Srt.runs (cmpL l) m.toNat rs).length = r.length := by rw [← hr, List.length_map]
  have hb := hs.2.2.2.1
  rw [Srt.rounds_count (by omega), hrl] at hb
  have h6 := passes_few (f := fan.toNat) (n := r.length) (by omega) (by omega)
  have hpb := Srt.passes_bounds (f := fan.toNat) (by omega) r.length r.length (Nat.le_refl _)
  have hbn : b.toNat = Srt.passes fan.toNat r.length r.length := by omega
  have hfi : (fan.toNat : Int) = fan := by omega
  refine ⟨hs.1, hs.2.1, by rw [hs.2.2.1, hrl], by omega, by omega, ?_, ?_⟩
  · rw [hbn, ← hfi, ← Int.natCast_pow]; exact Int.ofNat_le.2 hpb.1
  · rcases hpb.2 with h0 | h0
    · exact .inl (by omega)
    · refine .inr ?_
      rw [hbn, ← hfi, ← Int.natCast_pow]
      exact Int.ofNat_lt.2 h0
theorem lf_q1 {l : List SortField} {fan a b e : Int} {rs out : List Bytes} {r : List Rw} (h : LongF l fan rs r out a b e) (hw : few rs 40 = true) (i : Nat) : (out.getD i []).length ≤ 1000000 := by
  have := few_short hw (out := out) (by rw [h.out]; exact Srt.srt_perm rs) i
  omega
theorem again {l : List SortField} {m fan a b d e : Int} {rs out out2 : List Bytes} (hv : valid l = true) (hm : 1 ≤ m) (hm2 : m ≤ 60) (hf : 2 ≤ fan) (hf2 : fan ≤ 16) (hw : few rs 40 = true) (ho : out = Srt.srt (cmpL l) rs) (h : (out2, SortWork.mk a b d, e) = sortV l m fan idF noF out) : e = 0 ∧ a = ((min 1 rs.length : Nat) : Int) ∧ b = 0 := by
  have hc := cmpL_ok l
  have hpm : out.Perm rs := by rw [ho]; exact Srt.srt_perm rs
  have hl := (few_facts hw).1
  have hs := sv_plain hv hm (by omega) hf hf2 (by rw [hpm.length_eq]; omega) (fun i => by have := few_short hw hpm i; omega) h
  have h1 := Srt.runs_one hc (M := m.toNat) (l := out) (by rw [ho]; exact Srt.srt_ordered hc rs)
  have hp := (Srt.runs_perm hc (M := m.toNat) (by omega) out).length_eq
  rw [hpm.length_eq] at hp
  refine ⟨hs.2.1, ?_, ?_⟩
  · rw [hs.2.2.1]
    have hsm := (runs_small hc (M := m.toNat) (by omega) out).1
    rw [hpm.length_eq] at hsm
    cases hr : Srt.runs (cmpL l) m.toNat out with
    | nil => rw [hr] at hp; simp only [List.flatten_nil, List.length_nil] at hp ⊢; omega
    | cons x t => rw [hr] at h1 hsm; simp only [List.length_cons] at h1 hsm ⊢; omega
  · rw [hs.2.2.2.1, Srt.rounds_done h1]; rfl
theorem long_div {fan : Int} (hf : 2 ≤ fan) {n : Nat} (hn : 0 < n) : fan ^ n / fan = fan ^ (n - 1) := by
  obtain ⟨k, rfl⟩ : ∃ k, n = k + 1 := ⟨n - 1, by omega⟩
  rw [pow_next, Int.mul_ediv_cancel _ (by omega)]; rfl
theorem law_long {l : List SortField} {m fan a b d e a2 b2 d2 e2 most : Int} {rs out out2 : List Bytes} {r : List Rw} {k n i : Nat} (hm : 1 ≤ m) (hm2 : m ≤ 60) (hf : 2 ≤ fan) (hf2 : fan ≤ 16) (hv : valid l = true) (hw : few rs 40 = true) (hr : r.map Rw.s = runsV l m rs)
    (hk : r.length ≤ k) (hn : n = ((r.map Rw.s).take k).flatten.length) (hi : (i : Int) ≤ b) (hi2 : ¬ (i : Int) < b) (hp : most = fan ^ i)
    (h : (out, SortWork.mk a b d, e) = sortV l m fan idF noF rs) (h2 : (out2, SortWork.mk a2 b2 d2, e2) = sortV l m fan idF noF out) :
    ((((((((decide (((n : Nat) : Int) = ((rs.length : Nat) : Int))) && (decide (e = 0))) && (decide (e2 = 0))) && (decide (a = ((r.length : Nat) : Int)))) && (decide (a2 = ((min 1 rs.length : Nat) : Int)))) && (decide (b2 = 0))) && (decide (((r.length : Nat) : Int) ≤ most))) && ((decide (b = 0)) || (decide (most / fan < ((r.length : Nat) : Int))))) = true := by
  have hF := longF hv hm hm2 hf hf2 hw hr h
  have hR := (runsF hv hm hw hr).all
  have hA := again hv hm hm2 hf hf2 hw hF.out h2
  have hib : b.toNat = i := by omega
  rw [List.take_of_length_le (by rw [List.length_map]; exact hk), hR] at hn
  have hle := hF.le
  have hlt := hF.lt
  rw [hib, ← hp] at hle
  have hlast : b = 0 ∨ most / fan < ((r.length : Nat) : Int) := by
    rcases hlt with h0 | h0
    · exact .inl h0
    · by_cases hb : b = 0
      · exact .inl hb
      · refine .inr ?_
        rw [hp, long_div hf (by omega), ← hib]; exact h0
  simp only [Bool.and_eq_true, Bool.or_eq_true, decide_eq_true_eq]
  exact ⟨⟨⟨⟨⟨⟨⟨by omega, hF.e⟩, hA.1⟩, hF.a⟩, hA.2.1⟩, hA.2.2⟩, hle⟩, hlast⟩
end R44
end Go.Proofs.YtnfglkgahlaofaaGreatDoor
