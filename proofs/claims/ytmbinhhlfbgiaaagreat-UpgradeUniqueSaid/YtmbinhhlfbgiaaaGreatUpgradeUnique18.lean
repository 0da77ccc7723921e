/- Pl27g, Pl27h in one text. -/
import Derived.Test.YtmbinhhlfbgiaaaGreatUpgradeUnique17
namespace Go.Proofs.YtmbinhhlfbgiaaaGreat
open Go.GV
namespace R27
def Qb {α : Type} (bad : α → Prop) (r p : α) (b b2 : Int) : Prop := (r = p ∧ (b ≤ 0 → b2 = b)) ∨ (0 < b ∧ b2 = 0 ∧ bad r)
def QG (r p : Bytes × Int) (b b2 : Int) : Prop := Qb (fun r => r = ([], 15)) r p b b2
def QN (r p : Bytes × Bytes × Int) (b b2 : Int) : Prop := Qb (fun r => r = ([], [], 15)) r p b b2
def QE (r p : Int) (b b2 : Int) : Prop := Qb (fun r => r = 15) r p b b2
def QS (r p : List Change × List Change × Int) (b b2 : Int) : Prop := Qb (fun r => r.2.2 = 15) r p b b2
def QP (r p : List Change × Int) (b b2 : Int) : Prop := Qb (fun r => r = ([], 15)) r p b b2
def dec (b : Int) : Int := if b ≤ 0 then b else b - 1
section
variable {b b2 bb : Int}
variable {n r kk base at_ : Bytes} {e : Int} {l : List Pair} {j : Nat}
end
section
variable {ds : List Data} {c : Change} {old : Bytes} {th : Bool} {a : DataSet} {xs ys zs us : List Change} {b b2 bb e : Int} {alts : List DataSet} {k : Nat} {st : List Change × List Change × Int}
variable {base : DataSet} {g : Bytes} {ge : Int}
end
section
variable {ds : List Data} {base : DataSet} {alts : List DataSet} {c : Change} {l : List Change} {out : List Change} {p : List Change × Int} {b b2 e : Int}
theorem short_pre {n : Int} (h : short (([] ++ l) ++ [c]) n = true) : short l n = true ∧ c.Key.length ≤ 1000 ∧ c.Record.length ≤ 1000 := by
  unfold short at h ⊢
  simp only [List.nil_append, List.all_append, Bool.and_eq_true, List.all_cons, List.all_nil, decide_eq_true_eq, List.length_append, List.length_cons, List.length_nil] at h ⊢
  have h2 := h.1.2.1
  unfold longC at h2
  simp only [Bool.not_eq_true', Bool.or_eq_false_iff, decide_eq_false_iff_not] at h2
  exact ⟨⟨h.1.1, by omega⟩, by omega, by omega⟩
theorem rising_app : ∀ (l : List Change) (k : Bytes) (m : List Change), rising k (l ++ m) = true → rising k l = true
  | [], _, _, _ => rfl
  | x :: l, k, m, h => by
    rw [List.cons_append] at h
    unfold rising at h ⊢
    split
    · rename_i hk
      rw [if_pos hk] at h
      simp only [Bool.and_eq_true] at h ⊢
      exact ⟨h.1, rising_app l _ m h.2⟩
    · rename_i hk
      rw [if_neg hk] at h
      exact rising_app l _ m h
theorem busy_1 (h : (!((isSphere base alts && short (([] ++ l) ++ [c]) 41) && rising [] (([] ++ l) ++ [c]))) = false) : isSphere base alts = true := by simp at h; exact h.1.1
theorem busy_2 (h : (!((isSphere base alts && short (([] ++ l) ++ [c]) 41) && rising [] (([] ++ l) ++ [c]))) = false) : short l 41 = true := by simp only [Bool.not_eq_false', Bool.and_eq_true] at h; exact (short_pre h.1.2).1
theorem busy_3 (h : (!((isSphere base alts && short (([] ++ l) ++ [c]) 41) && rising [] (([] ++ l) ++ [c]))) = false) : rising [] l = true := by simp only [Bool.not_eq_false', Bool.and_eq_true] at h; exact rising_app l [] [c] h.2
theorem busy_4 (h : (!((isSphere base alts && short (([] ++ l) ++ [c]) 41) && rising [] (([] ++ l) ++ [c]))) = false) : (l.length ≤ 41 ∧ alts.length ≤ 4) ∧ c.Key.length ≤ 1000 ∧ c.Record.length ≤ 1000 := by
  refine ⟨⟨?_, (sph_facts (busy_1 h)).2.1⟩, ?_⟩
  · have := short_len2 (busy_2 h); omega
  · simp only [Bool.not_eq_false', Bool.and_eq_true] at h; exact (short_pre h.1.2).2
end
end R27
end Go.Proofs.YtmbinhhlfbgiaaaGreat

namespace Go.Proofs.YtmbinhhlfbgiaaaGreat
open Go.GV
namespace R27
section
variable {a : DataSet} {A B B' l : List Pair} {k base at_ : Bytes}
theorem findGo_pre : ∀ (m : Nat) (at_ : Bytes) (out r : List Bytes), findGo l a k m at_ out = (r, 0) → ∃ t, r = out ++ t
  | 0, at_, out, r, h => by unfold findGo at h; injection h with h1 _; exact ⟨[], by rw [← h1]; simp⟩
  | m + 1, at_, out, r, h => by
    unfold findGo at h
    split at h
    · injection h with h1 _; exact ⟨[], by rw [← h1]; simp⟩
    · split at h
      · injection h with _ h2; exact absurd h2 (by decide)
      · split at h
        · injection h with h1 _; exact ⟨[], by rw [← h1]; simp⟩
        · obtain ⟨t, ht⟩ := findGo_pre m _ _ _ h
          exact ⟨[(nextR l at_).1.drop k.length] ++ t, by rw [ht, List.append_assoc]⟩
theorem findGo_step {m : Nat} {out r : List Bytes} (h : findGo l a k (m + 1) at_ out = (r, 0)) : (((nextR l at_).2.2 ≠ 0 ∨ begins (nextR l at_).1 k = false) ∧ r = out) ∨
    ((nextR l at_).2.2 = 0 ∧ begins (nextR l at_).1 k = true ∧ findGo l a k m (nextR l at_).1 (out ++ [(nextR l at_).1.drop k.length]) = (r, 0)) := by
  unfold findGo at h
  split at h
  · rename_i h0; injection h with h1 _; exact .inl ⟨.inl h0, h1.symm⟩
  · rename_i h0
    split at h
    · injection h with _ h2; exact absurd h2 (by decide)
    · split at h
      · rename_i _ hb; injection h with h1 _; exact .inl ⟨.inr hb, h1.symm⟩
      · rename_i _ hb
        exact .inr ⟨Decidable.not_not.1 h0, by simpa using hb, h⟩
theorem begins_split {s k : Bytes} (h : begins s k = true) : s = k ++ s.drop k.length := by
  have := begins_iff.1 h
  exact (List.take_append_drop k.length s).symm.trans (by rw [this])
theorem dup_want {W : List Bytes} {m : Nat} (hf : findGo l a k (m + 2) k [] = (W, 0)) (hW : W.Pairwise Ord.lt) : dup l k base = 19 ↔ ∃ s ∈ W, s ≠ base := by
  unfold dup
  rcases findGo_step hf with ⟨h, rfl⟩ | ⟨h0, hb, hf2⟩
  · have : ¬ (∃ s ∈ ([] : List Bytes), s ≠ base) := by simp
    rw [iff_false_right this]
    rcases h with h | h
    · rw [if_pos h]; decide
    · by_cases h2 : (nextR l k).2.2 ≠ 0
      · rw [if_pos h2]; decide
      · rw [if_neg h2, if_pos h]; decide
  · rw [if_neg (Decidable.not_not.2 h0), if_neg (by rw [hb]; decide)]
    obtain ⟨t, ht⟩ := findGo_pre _ _ _ _ hf2
    have hs := begins_split hb
    by_cases hn : (nextR l k).1 ≠ k ++ base
    · rw [if_pos hn]
      refine iff_of_true rfl ⟨(nextR l k).1.drop k.length, by rw [ht]; simp, fun e => hn ?_⟩
      rw [hs, e]
    · rw [if_neg hn]
      have hn := Decidable.not_not.1 hn
      have hd : (nextR l k).1.drop k.length = base := by rw [hn, List.drop_left]
      rw [hd, hn] at hf2
      rcases findGo_step hf2 with ⟨h, rfl⟩ | ⟨h0, hb, hf3⟩
      · have : ¬ (∃ s ∈ ([] ++ [base] : List Bytes), s ≠ base) := by simp
        rw [iff_false_right this]
        rcases h with h | h
        · rw [if_pos h]; decide
        · by_cases h2 : (nextR l (k ++ base)).2.2 ≠ 0
          · rw [if_pos h2]; decide
          · rw [if_neg h2, if_pos h]; decide
      · rw [if_neg (Decidable.not_not.2 h0), if_neg (by rw [hb]; decide)]
        obtain ⟨t, ht⟩ := findGo_pre _ _ _ _ hf3
        refine iff_of_true rfl ⟨(nextR l (k ++ base)).1.drop k.length, by rw [ht]; simp, fun e => ?_⟩
        rw [ht, e] at hW
        simp only [List.nil_append, List.cons_append] at hW
        have := (List.pairwise_cons.1 hW).1 base (by simp)
        exact Ord.irr _ this
def NoDup (a : DataSet) (B : List Pair) : Prop := ∀ p ∈ B, ∀ q ∈ B, (R26.key a p.record).2 = true → (R26.key a q.record).2 = true → (R26.key a p.record).1 = (R26.key a q.record).1 → p.key = q.key
theorem dup_ix (hi : IsIx a A B) (hB : Srt B) (hn : ∀ p ∈ B, (p.key.length : Int) = a.KeyLength - a.AltLength) (hk : (k.length : Int) = a.AltLength) :
    dup A k base = 19 ↔ ∃ p ∈ B, (R26.key a p.record).2 = true ∧ (R26.key a p.record).1 = k ∧ p.key ≠ base := by
  rw [dup_want (a := a) (m := A.length) (find_list hi hB hn hk (A.length + 2) (by omega)) (wantK_srt hB)]
  constructor
  · rintro ⟨s, hs, hne⟩
    obtain ⟨x, hx, ⟨h1, h2⟩, rfl⟩ := wantK_mem.1 hs
    exact ⟨x, hx, h1, h2, hne⟩
  · rintro ⟨p, hp, h1, h2, hne⟩
    exact ⟨p.key, wantK_mem.2 ⟨p, hp, ⟨h1, h2⟩, rfl⟩, hne⟩
def sc (ds : List Data) (c : Change) (old : Bytes) (th : Bool) (a : DataSet) : Int :=
  if befo old th a = aftr c a then 0 else if (aftr c a).has = true ∧ a.Unique = true then dup (ofD ds a.Id).Pairs (aftr c a).key c.Key else 0
theorem stepA_sc (ds : List Data) (c : Change) (old : Bytes) (th : Bool) (xs ys : List Change) : (stepA ds c old th a (xs, ys, 0)).2.2 = sc ds c old th a := by
  unfold stepA sc
  rw [if_neg (by simp)]
  split <;> rfl
theorem dup_codes (l : List Pair) (k base : Bytes) : dup l k base = 0 ∨ dup l k base = 19 := by
  unfold dup
  repeat (first | exact .inl rfl | exact .inr rfl | split)
theorem sc_codes (ds : List Data) (c : Change) (old : Bytes) (th : Bool) (a : DataSet) : sc ds c old th a = 0 ∨ sc ds c old th a = 19 := by
  unfold sc
  split
  · exact .inl rfl
  · split
    · exact dup_codes _ _ _
    · exact .inl rfl
theorem steps_sc (ds : List Data) (c : Change) (old : Bytes) (th : Bool) : ∀ (l : List DataSet) (xs ys : List Change), ((stepsA ds c old th l (xs, ys, 0)).2.2 = 0 ∨ (stepsA ds c old th l (xs, ys, 0)).2.2 = 19) ∧ ((stepsA ds c old th l (xs, ys, 0)).2.2 = 19 ↔ ∃ a ∈ l, sc ds c old th a = 19)
  | [], xs, ys => ⟨.inl rfl, by constructor <;> intro h <;> first | (cases h; done) | (obtain ⟨_, h, _⟩ := h; cases h)⟩
  | a :: l, xs, ys => by
    have e : stepsA ds c old th (a :: l) (xs, ys, 0) = stepsA ds c old th l (stepA ds c old th a (xs, ys, 0)) := rfl
    have h := stepA_sc (a := a) ds c old th xs ys
    rw [e]
    rcases sc_codes ds c old th a with h0 | h0
    · rw [h0] at h
      have e2 : stepA ds c old th a (xs, ys, 0) = ((stepA ds c old th a (xs, ys, 0)).1, (stepA ds c old th a (xs, ys, 0)).2.1, 0) := Prod.ext rfl (Prod.ext rfl h)
      rw [e2]
      obtain ⟨g1, g2⟩ := steps_sc ds c old th l (stepA ds c old th a (xs, ys, 0)).1 (stepA ds c old th a (xs, ys, 0)).2.1
      refine ⟨g1, g2.trans ?_⟩
      constructor
      · rintro ⟨b, hb, hs⟩; exact ⟨b, by simp [hb], hs⟩
      · rintro ⟨b, hb, hs⟩
        rcases List.mem_cons.1 hb with rfl | hb
        · omega
        · exact ⟨b, hb, hs⟩
    · rw [stepsA_err l (by rw [h, h0]; decide), h]
      exact ⟨.inr h0, iff_of_true h0 ⟨a, by simp, h0⟩⟩
end
section
variable {ds : List Data} {base : DataSet} {alts : List DataSet} {c : Change} {l : List Change} {a : DataSet} {A B B' : List Pair} {old last : Bytes} {th : Bool} {n : Int}
theorem sc_iff (hA : IsIx a (ofD ds a.Id).Pairs B) (hB : Srt B) (hl : ∀ p ∈ B, (p.key.length : Int) = a.KeyLength - a.AltLength) (hU : a.Unique = true → NoDup a B)
    (hB' : ∀ p, p ∈ B' ↔ (p ∈ B ∧ p.key ≠ c.Key) ∨ (c.Kind ≠ 1 ∧ p = ⟨c.Key, c.Record⟩)) (ho : th = true → Pair.mk c.Key old ∈ B) (_ : th = false → ∀ p ∈ B, p.key ≠ c.Key) : sc ds c old th a = 19 ↔ (a.Unique = true ∧ ¬ NoDup a B') := by
  have haft : (aftr c a).has = true → (R26.key a c.Record).2 = true ∧ c.Kind ≠ 1 ∧ (aftr c a).key = (R26.key a c.Record).1 := by
    unfold aftr sideV
    split
    · intro h; cases h
    · rename_i h
      intro _
      simp only [Bool.or_eq_true, Bool.not_eq_true', decide_eq_false_iff_not, not_or, Decidable.not_not] at h
      refine ⟨by simpa using h.1, by simpa using h.2, rfl⟩
  constructor
  · intro h
    unfold sc at h
    split at h
    · cases h
    · split at h
      · rename_i hu
        obtain ⟨g1, g2, g3⟩ := haft hu.1
        rw [g3] at h
        obtain ⟨p, hp, h1, h2, hne⟩ := (dup_ix hA hB hl (R26.key_facts g1).2.2.2.2).1 h
        refine ⟨hu.2, fun hnd => hne ?_⟩
        exact hnd p ((hB' p).2 (.inl ⟨hp, hne⟩)) ⟨c.Key, c.Record⟩ ((hB' _).2 (.inr ⟨g2, rfl⟩)) h1 g1 h2
      · cases h
  · rintro ⟨hu, hnd⟩
    have hex : ∃ p ∈ B, p.key ≠ c.Key ∧ c.Kind ≠ 1 ∧ (R26.key a p.record).2 = true ∧ (R26.key a c.Record).2 = true ∧ (R26.key a p.record).1 = (R26.key a c.Record).1 := by
      refine Classical.byContradiction fun hno2 => hnd ?_
      intro p hp q hq h1 h2 h3
      rcases (hB' p).1 hp with ⟨hp, hpk⟩ | ⟨hk, rfl⟩
      · rcases (hB' q).1 hq with ⟨hq, hqk⟩ | ⟨hk, rfl⟩
        · exact hU hu p hp q hq h1 h2 h3
        · exact absurd ⟨p, hp, hpk, hk, h1, h2, h3⟩ hno2
      · rcases (hB' q).1 hq with ⟨hq, hqk⟩ | ⟨hk, rfl⟩
        · exact absurd ⟨q, hq, hqk, hk, h2, h1, h3.symm⟩ hno2
        · rfl
    obtain ⟨p, hp, hpk, hk, h1, h2, h3⟩ := hex
    have ha : aftr c a = side.mk (R26.key a c.Record).1 true := by
      unfold aftr sideV
      rw [if_neg (by rw [h2, decide_eq_true hk]; decide)]
    unfold sc
    rw [if_neg, if_pos ⟨by rw [ha], hu⟩, ha]
    · exact (dup_ix hA hB hl (R26.key_facts h2).2.2.2.2).2 ⟨p, hp, h1, h3, hpk⟩
    · rw [ha]
      unfold befo sideV
      split
      · intro e; injection e with _ e; cases e
      · rename_i hc
        intro e
        injection e with e _
        simp only [Bool.or_eq_true, Bool.not_eq_true', not_or, Bool.not_eq_false] at hc
        have hin := ho hc.2
        exact hpk (hU hu p hp _ hin h1 hc.1 (by rw [h3, ← e]))
end
section
variable {ds : List Data} {base : DataSet} {alts : List DataSet} {c : Change} {l : List Change} {last : Bytes}
def Uniq (base : DataSet) (alts : List DataSet) (f : Int → List Pair) : Prop := ∀ a ∈ alts, a.Unique = true → NoDup a (f base.Id)
theorem nodup_sub {a : DataSet} {B B' : List Pair} (h : NoDup a B) (hs : ∀ p ∈ B', p ∈ B) : NoDup a B' := fun p hp q hq => h p (hs p hp) q (hs q hq)
theorem nodup_nil (a : DataSet) : NoDup a [] := fun p hp => by cases hp
theorem chg_mem (hS : Srt (ofP ds base.Id)) (hc : isChange base c = true) (h3 : c.Kind ≠ 3) : ∀ p, p ∈ chg (ofP ds base.Id) c c.Key ↔ (p ∈ ofP ds base.Id ∧ p.key ≠ c.Key) ∨ (c.Kind ≠ 1 ∧ p = ⟨c.Key, c.Record⟩) := fun p => by
  have hki := kind_le hc
  by_cases h0 : c.Kind = 0
  · rw [← chg0 h0, (set_put hS _).2]
    constructor
    · rintro (h | h)
      · exact .inl h
      · exact .inr ⟨by omega, h⟩
    · rintro (h | h)
      · exact .inl h
      · exact .inr h.2
  · by_cases h1 : c.Kind = 1
    · rw [← chg1 h1, (set_erase hS _).2]
      constructor
      · exact fun h => .inl h
      · rintro (h | h)
        · exact h
        · exact absurd h1 h.1
    · have h2 : c.Kind = 2 := by omega
      rw [← chg2 h2, (set_put hS _).2]
      constructor
      · rintro (h | h)
        · exact .inl h
        · exact .inr ⟨by omega, h⟩
      · rintro (h | h)
        · exact .inl h
        · exact .inr h.2
theorem oldR_cases (hK : Kept (ofP ds) base alts last) (hv : R26.isBase base = true) (ho : base.Org = 3 ∨ base.Org = 1) (hc : isChange base c = true) (h3 : c.Kind ≠ 3) (hr : c.Kind = 2 → Ord.lt last c.Key) :
    ((oldR ds base c).2 = 0 ∧ c.Kind ≠ 2 ∧ Pair.mk c.Key (oldR ds base c).1 ∈ ofP ds base.Id) ∨ ((oldR ds base c).2 = 6 ∧ ∀ p ∈ ofP ds base.Id, p.key ≠ c.Key) := by
  unfold oldR
  by_cases h2 : c.Kind = 2
  · rw [if_neg (Decidable.not_not.2 h2)]
    refine .inr ⟨rfl, fun p hp e => hK.last ((change_facts hc hv ho h3).2.1 h2) p hp (e ▸ hr h2)⟩
  · rw [if_pos h2]
    rcases getR_mem c.Key (ofP ds base.Id) with ⟨old, h, hm⟩ | ⟨h, hm⟩
    · have h : getR (ofD ds base.Id).Pairs c.Key = (old, 0) := h
      rw [h]; exact .inl ⟨rfl, h2, hm⟩
    · have h : getR (ofD ds base.Id).Pairs c.Key = ([], 6) := h
      rw [h]; exact .inr ⟨rfl, hm⟩
theorem plan_19 (hs : isSphere base alts = true) (hc : isChange base c = true) (hK : Kept (ofP ds) base alts last) (hU : Uniq base alts (ofP ds)) (hr : c.Kind = 2 → Ord.lt last c.Key) :
    (plan ds base alts c).2 = 19 ↔ ∃ a ∈ alts, a.Unique = true ∧ ¬ NoDup a (chg (ofP ds base.Id) c c.Key) := by
  have hsf := sph_facts hs
  have hno : ∀ {p : Prop}, (∀ a ∈ alts, a.Unique = true → NoDup a (chg (ofP ds base.Id) c c.Key)) → ¬ p → (p ↔ ∃ a ∈ alts, a.Unique = true ∧ ¬ NoDup a (chg (ofP ds base.Id) c c.Key)) := fun h hp => iff_of_false hp (fun ⟨a, ha, hu, hn⟩ => hn (h a ha hu))
  unfold plan
  rw [if_neg (by rw [hs, hc]; decide)]
  by_cases h3 : c.Kind = 3
  · rw [if_pos h3]
    exact hno (fun a _ _ => by rw [← chg3 h3]; exact nodup_nil a) (show ¬ (0 : Int) = 19 by decide)
  · rw [if_neg h3]
    by_cases hal : alts = []
    · subst hal
      have hcode : ∀ st : List Change × List Change × Int, (stepsA ds c (oldR ds base c).1 (decide ((oldR ds base c).2 = 0)) [] st) = st := fun _ => rfl
      refine hno (fun a ha => by cases ha) ?_
      split
      · show ¬ (oldR ds base c).2 = 19
        unfold oldR
        split
        · rcases getR_err (ofD ds base.Id).Pairs c.Key with h | h <;> omega
        · decide
      · unfold steps; rw [hcode]; rw [if_neg (by simp)]; exact (show ¬ (0 : Int) = 19 by decide)
    · obtain ⟨a0, ha0⟩ := List.exists_mem_of_ne_nil alts hal
      have hf0 := alt_facts (hsf.2.2.1 a0 ha0)
      have hbb : R26.isBase base = true := by
        have := hsf.2.2.1 a0 ha0; unfold R26.valid at this; simp only [Bool.and_eq_true] at this; exact this.1.1.1
      have hold := oldR_cases hK hbb hf0.2.2.2 hc h3 hr
      have hmem := chg_mem hK.srt hc h3
      by_cases hgo : (oldR ds base c).2 ≠ 0 ∧ ((oldR ds base c).2 ≠ 6 ∨ c.Kind = 1)
      · rw [if_pos hgo]
        rcases hold with h | h
        · exact absurd h.1 hgo.1
        · have hk1 : c.Kind = 1 := hgo.2.elim (fun g => absurd h.1 g) id
          refine hno (fun a ha hu => nodup_sub (hU a ha hu) (fun p hp => ?_)) (by show ¬ (oldR ds base c).2 = 19; omega)
          rcases (hmem p).1 hp with g | g
          · exact g.1
          · exact absurd hk1 g.1
      · rw [if_neg hgo]
        have hst := steps_sc ds c (oldR ds base c).1 (decide ((oldR ds base c).2 = 0)) alts [own c] []
        have e1 : (steps ds c (oldR ds base c).1 (decide ((oldR ds base c).2 = 0)) alts) = stepsA ds c (oldR ds base c).1 (decide ((oldR ds base c).2 = 0)) alts ([own c], [], 0) := rfl
        have key : (∃ a ∈ alts, sc ds c (oldR ds base c).1 (decide ((oldR ds base c).2 = 0)) a = 19) ↔ ∃ a ∈ alts, a.Unique = true ∧ ¬ NoDup a (chg (ofP ds base.Id) c c.Key) := by
          have hx : ∀ a ∈ alts, sc ds c (oldR ds base c).1 (decide ((oldR ds base c).2 = 0)) a = 19 ↔ (a.Unique = true ∧ ¬ NoDup a (chg (ofP ds base.Id) c c.Key)) := fun a ha => by
            have hf := alt_facts (hsf.2.2.1 a ha)
            refine sc_iff (hK.alt a ha) hK.srt (fun p hp => by rw [hf.2.2.1]; exact hK.klen a ha p hp) (hU a ha) hmem ?_ ?_
            · intro h
              have h := of_decide_eq_true h
              rcases hold with g | g
              · exact g.2.2
              · omega
            · intro h
              have h := of_decide_eq_false h
              rcases hold with g | g
              · exact absurd g.1 h
              · exact g.2
          exact ⟨fun ⟨a, ha, h⟩ => ⟨a, ha, (hx a ha).1 h⟩, fun ⟨a, ha, h⟩ => ⟨a, ha, (hx a ha).2 h⟩⟩
        rw [← key, ← hst.2, e1]
        rcases hst.1 with g | g
        · rw [if_neg (by rw [g]; decide), g]
        · rw [if_pos (by rw [g]; decide)]
theorem uniq_step (hs : isSphere base alts = true) (hc : isChange base c = true) (hK : Kept (ofP ds) base alts last) (hU : Uniq base alts (ofP ds)) (hr : c.Kind = 2 → Ord.lt last c.Key) (h0 : (plan ds base alts c).2 = 0) : Uniq base alts (does (ofP ds) (plan ds base alts c).1 c.Key) := fun a ha hu => by
  rw [does_base (plan_ok h0)]
  refine Classical.byContradiction fun hn => ?_
  have := (plan_19 hs hc hK hU hr).2 ⟨a, ha, hu, hn⟩
  omega
def ReachU (base : DataSet) (alts : List DataSet) (l : List Change) (k : Nat) (ds : List Data) : Prop := Reach base alts l k ds ∧ Uniq base alts (ofP ds)
theorem reachU_start : ReachU base alts l 0 [] := ⟨reach_start, fun a _ _ => nodup_nil a⟩
theorem reachU_skip {k : Nat} (hk : k < l.length) (hr : rising [] l = true) (h : ReachU base alts l k ds) : ReachU base alts l (k + 1) ds := ⟨reach_skip hk hr h.1, h.2⟩
theorem reachU_next {k : Nat} {ds2 : List Data} {j : Nat} (hk : k < l.length) (hr : rising [] l = true) (h : ReachU base alts l k ds) (h0 : (plan ds base alts (l.getD k default)).2 = 0) (hj : (plan ds base alts (l.getD k default)).1.length ≤ j) (hj2 : j ≤ 9) (hm : Mid base alts (l.getD k default) k ds j ds2) : ReachU base alts l (k + 1) ds2 := by
  have hp := plan_ok h0
  refine ⟨reach_next hk hr h.1 h0 hj hj2 hm, fun a ha hu => ?_⟩
  have e : ofP ds2 base.Id = does (ofP ds) (plan ds base alts (l.getD k default)).1 (l.getD k default).Key base.Id := by
    rw [hm.1 base.Id, List.take_of_length_le hj]
  rw [e]
  exact uniq_step hp.sph hp.chg h.1.1 h.2 (fun h2 => rising_at l [] hr k hk h2) h0 a ha hu
end
section
variable {ds : List Data} {c : Change} {a : DataSet} {l : List Pair} {k i j : Nat} {out out2 : List Bytes} {last : Bytes} {outD : List Data} {found : Bool}
def doN (ds : List Data) (c : Change) : List Data := if isAt ds c.Id = true then ds else ds ++ [⟨c.Id, [], none, 0⟩]
theorem doN_ro {S : List Nat} {w : World} (h : ∀ i : Nat, RO S w (ds.getD i default).PairsA ((ds.getD i default).Pairs.flatMap Pair.enc)) : ∀ i : Nat, RO S w ((doN ds c).getD i default).PairsA (((doN ds c).getD i default).Pairs.flatMap Pair.enc) := by
  unfold doN
  split
  · exact h
  · intro i
    by_cases hi : i < ds.length
    · have e : (ds ++ [(⟨c.Id, [], none, 0⟩ : Data)]).getD i default = ds.getD i default := by simp [List.getElem?_append_left hi]
      rw [e]; exact h i
    · by_cases hi2 : i = ds.length
      · subst hi2
        have e : (ds ++ [(⟨c.Id, [], none, 0⟩ : Data)]).getD ds.length default = (⟨c.Id, [], none, 0⟩ : Data) := by simp
        rw [e]; exact RO.nil
      · have e : (ds ++ [(⟨c.Id, [], none, 0⟩ : Data)]).getD i default = default := by
          rw [List.getD_eq_getElem?_getD, List.getElem?_eq_none (by simp; omega)]; rfl
        rw [e]; exact RO.nil
theorem isAt_snoc (hk : k < ds.length) : isAt (ds.take (k + 1)) c.Id = (isAt (ds.take k) c.Id || decide ((ds.getD k default).Id = c.Id)) := by
  rw [take_get default hk]; unfold isAt; rw [List.any_append]; simp
theorem don_hit (hk : k < ds.length) (h : outD = ds.take k ∧ found = isAt (ds.take k) c.Id) (h1 : (ds.getD k default).Id = c.Id) : outD ++ [ds.getD k default] = ds.take (k + 1) ∧ true = isAt (ds.take (k + 1)) c.Id := by
  rw [isAt_snoc hk, decide_eq_true h1, Bool.or_true, h.1]; exact ⟨(take_get default hk).symm, rfl⟩
theorem don_on (hk : k < ds.length) (h : outD = ds.take k ∧ found = isAt (ds.take k) c.Id) (h1 : ¬ (ds.getD k default).Id = c.Id ∨ found = true) : outD ++ [ds.getD k default] = ds.take (k + 1) ∧ found = isAt (ds.take (k + 1)) c.Id := by
  rw [isAt_snoc hk, h.1]
  refine ⟨(take_get default hk).symm, ?_⟩
  rcases h1 with g | g
  · rw [decide_eq_false g, Bool.or_false]; exact h.2
  · rw [← h.2, g]; rfl
theorem don_old (hk : ds.length ≤ k) (h : outD = ds.take k ∧ found = isAt (ds.take k) c.Id) (h1 : found = true) : outD = doN ds c := by
  rw [List.take_of_length_le hk] at h; unfold doN; rw [if_pos (by rw [← h.2, h1]), h.1]
theorem don_new (hk : ds.length ≤ k) (h : outD = ds.take k ∧ found = isAt (ds.take k) c.Id) (h1 : found = false) : outD ++ [⟨c.Id, [], none, 0⟩] = doN ds c := by
  rw [List.take_of_length_le hk] at h; unfold doN; rw [if_neg (by rw [← h.2, h1]; decide), h.1]
def K1 (a : DataSet) (l : List Pair) (i : Nat) : Bytes := (R26.parts a ((R26.recs a l).getD i [])).1
def DupF (a : DataSet) (l : List Pair) (k : Nat) (out : List Bytes) : Prop := out = [] ↔ ∀ i, 0 < i → i < k → K1 a l i ≠ K1 a l (i - 1)
theorem du_yes {X : Bytes} (_h : DupF a l k out) (hl : 0 < k → last = K1 a l (k - 1)) (hc : ((decide ((0 : Int) < ((k : Nat) : Int)) && decide (K1 a l k = last)) && (decide (((out.length : Nat) : Int) = 0) || decide (X ≠ K1 a l k))) = true) : DupF a l (k + 1) (out ++ [K1 a l k]) := by
  simp only [Bool.and_eq_true, decide_eq_true_eq] at hc
  constructor
  · intro e; simp at e
  · intro e
    exact absurd (hc.1.2.trans (hl (by omega))) (e k (by omega) (by omega))
theorem du_no {X : Bytes} (h : DupF a l k out) (hl : 0 < k → last = K1 a l (k - 1)) (hc : ((decide ((0 : Int) < ((k : Nat) : Int)) && decide (K1 a l k = last)) && (decide (((out.length : Nat) : Int) = 0) || decide (X ≠ K1 a l k))) = false) : DupF a l (k + 1) out := by
  constructor
  · intro e i h0 hi
    by_cases hik : i = k
    · subst hik
      intro e2
      subst e
      rw [Bool.and_eq_false_iff] at hc
      rcases hc with hc | hc
      · rw [Bool.and_eq_false_iff] at hc
        rcases hc with hc | hc
        · exact absurd (of_decide_eq_false hc) (by omega)
        · exact absurd (e2.trans (hl h0).symm) (of_decide_eq_false hc)
      · simp at hc
    · exact h.1 e i h0 (by omega)
  · intro e; exact h.2 (fun i h0 hi => e i h0 (by omega))
theorem parts_ent {s : Bytes} (h : s ∈ R26.ents a l) : ∃ x ∈ l, (R26.key a x.record).2 = true ∧ s = (R26.key a x.record).1 ++ x.key ∧ (R26.parts a s).1 = (R26.key a x.record).1 := by
  obtain ⟨x, hx, h1, h2, h3⟩ := mem_ents.1 h
  obtain ⟨g1, _, _, _, g5⟩ := R26.key_facts h1
  refine ⟨x, hx, h1, h3, ?_⟩
  unfold R26.parts
  rw [if_pos g1, if_pos (by rw [h3, List.length_append]; omega)]
  show sub s 0 a.AltLength.toNat = _
  unfold sub
  rw [List.drop_zero, h3, show a.AltLength.toNat = (R26.key a x.record).1.length by omega, List.take_left]
theorem dupF_none (h : DupF a l (R26.recs a l).length out) (hn : NoDup a l) : out = [] := by
  refine h.2 fun i h0 hi e => ?_
  have hs := R26.recs_sorted a l
  have g1 : (R26.recs a l)[i]? = some ((R26.recs a l).getD i []) := by simp [List.getElem?_eq_getElem hi]
  have g2 : (R26.recs a l)[i - 1]? = some ((R26.recs a l).getD (i - 1) []) := by simp [List.getElem?_eq_getElem (show i - 1 < (R26.recs a l).length by omega)]
  have m1 : (R26.recs a l).getD i [] ∈ R26.recs a l := List.mem_of_getElem? g1
  have m2 : (R26.recs a l).getD (i - 1) [] ∈ R26.recs a l := List.mem_of_getElem? g2
  obtain ⟨x, hx, k1, e1, p1⟩ := parts_ent ((R26.recs_mem a l _).1 m1)
  obtain ⟨y, hy, k2, e2, p2⟩ := parts_ent ((R26.recs_mem a l _).1 m2)
  unfold K1 at e
  rw [p1, p2] at e
  have hk := hn x hx y hy k1 k2 e
  have hlt : Ord.lt ((R26.recs a l).getD (i - 1) []) ((R26.recs a l).getD i []) := by
    have q := List.pairwise_iff_getElem.1 hs (i - 1) i (by omega) hi (by omega)
    simpa [List.getElem?_eq_getElem hi, List.getElem?_eq_getElem (show i - 1 < (R26.recs a l).length by omega)] using q
  rw [e1, e2, e, hk] at hlt
  exact Ord.irr _ hlt
def twoAt (a : DataSet) (l : List Pair) (i j : Nat) : Bool := ((((((R26.key a (l.getD i default).record).2 && (R26.key a (l.getD j default).record).2) && decide ((R26.key a (l.getD i default).record).1 = (R26.key a (l.getD j default).record).1)) && decide ((l.getD i default).key ≠ (l.getD j default).key)) && decide ((((l.getD i default).key.length : Nat) : Int) = a.KeyLength - a.AltLength)) && decide ((((l.getD j default).key.length : Nat) : Int) = a.KeyLength - a.AltLength))
def DupR (a : DataSet) (l : List Pair) (i j : Nat) (out : List Bytes) : Prop := out = [] ↔ (∀ i', i' < i → ∀ j', j' < i' → twoAt a l i' j' = false) ∧ ∀ j', j' < j → twoAt a l i j' = false
theorem dr_start : DupR a l 0 0 [] := ⟨fun _ => ⟨fun _ h => absurd h (Nat.not_lt_zero _), fun _ h => absurd h (Nat.not_lt_zero _)⟩, fun _ => rfl⟩
theorem dr_next (h : DupR a l i j out) (hj : ¬ ((j : Nat) : Int) < ((i : Nat) : Int)) (hj2 : j ≤ i) : DupR a l (i + 1) 0 out := by
  have : j = i := by omega
  subst this
  refine h.trans ⟨fun g => ⟨fun i' hi j' hj' => ?_, fun _ h => absurd h (Nat.not_lt_zero _)⟩, fun g => ⟨fun i' hi j' hj' => g.1 i' (by omega) j' hj', fun j' hj' => g.1 j (by omega) j' hj'⟩⟩
  by_cases e : i' = j
  · subst e; exact g.2 j' hj'
  · exact g.1 i' (by omega) j' hj'
theorem ins_ne (l : List Bytes) (s : Bytes) : Ord.ins l s ≠ [] := fun e => by
  have : s ∈ Ord.ins l s := (Ord.ins_mem l s s).2 (.inl rfl)
  rw [e] at this; cases this
theorem dr_yes (s : Bytes) (hc : twoAt a l i j = true) : DupR a l i (j + 1) (Ord.ins out s) := ⟨fun e => absurd e (ins_ne _ _), fun g => by rw [g.2 j (by omega)] at hc; cases hc⟩
theorem dr_no (h : DupR a l i j out) (hc : twoAt a l i j = false) : DupR a l i (j + 1) out := by
  refine h.trans ⟨fun g => ⟨g.1, fun j' hj => ?_⟩, fun g => ⟨g.1, fun j' hj => g.2 j' (by omega)⟩⟩
  by_cases e : j' = j
  · subst e; exact hc
  · exact g.2 j' (by omega)
theorem dr_end (h : DupR a l i 0 out) (hi : l.length ≤ i) (hi2 : i ≤ l.length) (hl : ∀ p ∈ l, (p.key.length : Int) = a.KeyLength - a.AltLength) : out = [] ↔ NoDup a l := by
  refine h.trans ⟨fun g p hp q hq h1 h2 h3 => ?_, fun g => ⟨fun i' hi' j' hj' => ?_, fun _ h => absurd h (Nat.not_lt_zero _)⟩⟩
  · obtain ⟨m, hm, rfl⟩ := List.getElem_of_mem hp
    obtain ⟨n, hn, rfl⟩ := List.getElem_of_mem hq
    have em : l.getD m default = l[m] := by simp [List.getElem?_eq_getElem hm]
    have en : l.getD n default = l[n] := by simp [List.getElem?_eq_getElem hn]
    refine Classical.byContradiction fun hne => ?_
    rcases Nat.lt_trichotomy m n with hmn | hmn | hmn
    · have := g.1 n (by omega) m hmn
      have t : twoAt a l n m = true := by
        unfold twoAt
        simp only [em, en, Bool.and_eq_true, decide_eq_true_eq]
        exact ⟨⟨⟨⟨⟨h2, h1⟩, h3.symm⟩, fun e => hne e.symm⟩, hl _ hq⟩, hl _ hp⟩
      rw [this] at t; cases t
    · subst hmn; exact hne rfl
    · have := g.1 m (by omega) n hmn
      have t : twoAt a l m n = true := by
        unfold twoAt
        simp only [em, en, Bool.and_eq_true, decide_eq_true_eq]
        exact ⟨⟨⟨⟨⟨h1, h2⟩, h3⟩, hne⟩, hl _ hp⟩, hl _ hq⟩
      rw [this] at t; cases t
  · by_cases hlt : i' < l.length
    · cases hc : twoAt a l i' j' with
      | false => rfl
      | true =>
        unfold twoAt at hc
        simp only [Bool.and_eq_true, decide_eq_true_eq] at hc
        have m1 : l.getD i' default ∈ l := by rw [List.getD_eq_getElem?_getD, List.getElem?_eq_getElem hlt]; exact List.getElem_mem hlt
        have m2 : l.getD j' default ∈ l := by rw [List.getD_eq_getElem?_getD, List.getElem?_eq_getElem (show j' < l.length by omega)]; exact List.getElem_mem _
        exact absurd (g _ m1 _ m2 hc.1.1.1.1.1 hc.1.1.1.1.2 hc.1.1.1.2) hc.1.1.2
    · omega
end
section
variable {ds : List Data} {base : DataSet} {alts : List DataSet} {c : Change} {l : List Change} {a : DataSet} {B : List Pair} {i : Nat} {out : List Bytes} {t : Bool} {last : Bytes}
def Two (a : DataSet) (B : List Pair) : Prop := ∃ i, i < B.length ∧ ∃ j, j < i ∧ twoAt a B i j = true
theorem dr_two (h : DupR a B i 0 out) (hi : B.length ≤ i) (hi2 : i ≤ B.length) : out = [] ↔ ¬ Two a B := by
  have e : i = B.length := by omega
  subst e
  refine h.trans ⟨fun g => ?_, fun g => ⟨fun i hi j hj => ?_, fun _ h => absurd h (Nat.not_lt_zero _)⟩⟩
  · rintro ⟨i, hi, j, hj, h⟩; rw [g.1 i hi j hj] at h; cases h
  · cases hc : twoAt a B i j with
    | false => rfl
    | true => exact absurd ⟨i, hi, j, hj, hc⟩ g
theorem two_iff (hl : ∀ p ∈ B, (p.key.length : Int) = a.KeyLength - a.AltLength) : Two a B ↔ ¬ NoDup a B := by
  by_cases h : Two a B
  · refine iff_of_true h fun hn => ?_
    have hd : DupR a B B.length 0 [[]] := by
      refine ⟨fun e => (by cases e), fun g => ?_⟩
      obtain ⟨i, hi, j, hj, hc⟩ := h
      rw [g.1 i hi j hj] at hc; cases hc
    have := (dr_end hd (Nat.le_refl _) (Nat.le_refl _) hl).2 hn
    cases this
  · refine iff_of_false h fun hn => hn ?_
    refine (dr_end (a := a) (l := B) (i := B.length) (out := []) ⟨fun _ => ⟨fun i hi j hj => ?_, fun _ h => absurd h (Nat.not_lt_zero _)⟩, fun _ => rfl⟩ (Nat.le_refl _) (Nat.le_refl _) hl).1 rfl
    cases hc : twoAt a B i j with
    | false => rfl
    | true => exact absurd ⟨i, hi, j, hj, hc⟩ h
def Tw (alts : List DataSet) (B : List Pair) (i : Nat) (t : Bool) : Prop := t = true ↔ ∃ a ∈ alts.take i, a.Unique = true ∧ Two a B
theorem tw_start : Tw alts B 0 false := ⟨fun h => (by cases h), fun ⟨a, ha, _⟩ => (by simp at ha)⟩
theorem tw_on (hi : i < alts.length) (h : Tw alts B i t) {u : Bool} (hu : u = true ↔ ((alts.getD i default).Unique = true ∧ Two (alts.getD i default) B)) : Tw alts B (i + 1) (t || u) := by
  unfold Tw at h ⊢
  rw [take_get default hi, Bool.or_eq_true, h, hu]
  constructor
  · rintro (⟨a, ha, h⟩ | h)
    · exact ⟨a, List.mem_append.2 (.inl ha), h⟩
    · exact ⟨_, List.mem_append.2 (.inr (List.mem_singleton.2 rfl)), h⟩
  · rintro ⟨a, ha, h⟩
    rcases List.mem_append.1 ha with g | g
    · exact .inl ⟨a, g, h⟩
    · rw [List.mem_singleton.1 g] at h; exact .inr h
theorem tw_t (hi : i < alts.length) (h : Tw alts B i t) (ht : t = true) : Tw alts B (i + 1) true := by
  obtain ⟨a, ha, hq⟩ := h.1 ht
  refine iff_of_true rfl ⟨a, ?_, hq⟩
  rw [take_get default hi]
  exact List.mem_append.2 (.inl ha)
theorem tw_f (hi : i < alts.length) (h : Tw alts B i t) (ht : t = false) {u : Bool} (hu : u = true ↔ ((alts.getD i default).Unique = true ∧ Two (alts.getD i default) B)) : Tw alts B (i + 1) u := by
  have := tw_on hi h hu
  rw [ht] at this; exact this
theorem u_no (h : (alts.getD i default).Unique = false) : (false = true) ↔ ((alts.getD i default).Unique = true ∧ Two (alts.getD i default) B) := iff_of_false (by decide) (fun g => by rw [h] at g; cases g.1)
theorem u_yes (h : (alts.getD i default).Unique = true) (ho : out = [] ↔ ¬ Two (alts.getD i default) B) : decide ((0 : Int) < ((out.length : Nat) : Int)) = true ↔ ((alts.getD i default).Unique = true ∧ Two (alts.getD i default) B) := by
  rw [decide_eq_true_eq]
  constructor
  · intro g
    refine ⟨h, Classical.byContradiction fun hn => ?_⟩
    rw [ho.2 hn] at g; exact absurd g (by simp)
  · rintro ⟨_, h2⟩
    cases hq : out with
    | nil => exact absurd h2 (ho.1 hq)
    | cons x y => simp
theorem uni_bad (hU : Uniq base alts (ofP ds)) (ha : a ∈ alts) (hu : a.Unique = true) (hF : DupF a (ofD ds base.Id).Pairs (R26.recs a (ofD ds base.Id).Pairs).length out) (h : (0 : Int) < ((out.length : Nat) : Int)) : False := by
  rw [dupF_none hF (hU a ha hu)] at h; exact absurd h (by simp)
theorem uni_arg (h : (!(isChange base c)) = true) : (plan ds base alts c).2 = 1 := by
  have hc : isChange base c = false := by simpa using h
  unfold plan
  rw [if_pos (by rw [hc, Bool.and_false])]
theorem chg_keys (hs : isSphere base alts = true) (hc : isChange base c = true) (hK : Kept (ofP ds) base alts last) (ha : a ∈ alts) : ∀ p ∈ chg (ofP ds base.Id) c c.Key, (p.key.length : Int) = a.KeyLength - a.AltLength := fun p hp => by
  have hsf := sph_facts hs
  have hf := alt_facts (hsf.2.2.1 a ha)
  have hbb : R26.isBase base = true := by
    have := hsf.2.2.1 a ha; unfold R26.valid at this; simp only [Bool.and_eq_true] at this; exact this.1.1.1
  rw [hf.2.2.1]
  by_cases h3 : c.Kind = 3
  · rw [← chg3 h3] at hp; cases hp
  · rcases (chg_mem hK.srt hc h3 p).1 hp with ⟨g, _⟩ | ⟨_, rfl⟩
    · exact hK.klen a ha p g
    · exact (change_facts hc hbb hf.2.2.2 h3).1
theorem uni_19 (hs : isSphere base alts = true) (hc : (!(isChange base c)) = false) (hR : ReachU base alts l l.length ds) (hr : rising [] (([] ++ l) ++ [c]) = true) (hB : B = chg (ofP ds base.Id) c c.Key) (hT : Tw alts B i t) (hi : alts.length ≤ i) : decide ((plan ds base alts c).2 = 19) = t := by
  have hc : isChange base c = true := by simpa using hc
  have hsf := sph_facts hs
  have hlast : c.Kind = 2 → Ord.lt (lastK (l.take l.length)) c.Key := fun h2 => by
    have := rising_at (([] ++ l) ++ [c]) [] hr l.length (by simp) (by simpa using h2)
    simpa [lastK] using this
  have h19 := plan_19 hs hc hR.1.1 hR.2 hlast
  have key : t = true ↔ (plan ds base alts c).2 = 19 := by
    unfold Tw at hT
    rw [h19, hT, List.take_of_length_le hi, hB]
    constructor
    · rintro ⟨a, ha, hu, h2⟩
      refine ⟨a, ha, hu, (two_iff ?_).1 h2⟩
      exact chg_keys hs hc hR.1.1 ha
    · rintro ⟨a, ha, hu, h2⟩
      exact ⟨a, ha, hu, (two_iff (chg_keys hs hc hR.1.1 ha)).2 h2⟩
  cases t with
  | true => exact decide_eq_true (key.1 rfl)
  | false => exact decide_eq_false (fun h => by cases key.2 h)
end
section
variable {ds : List Data} {base : DataSet} {alts : List DataSet} {c : Change} {l : List Change} {n : Nat}
theorem sm1 (h : Small ds 370) : ds.length ≤ 1000 := Nat.le_trans h.1 (by omega)
theorem sm2 (h : Small ds 370) : ∀ i, (ds.getD i default).Pairs.length ≤ 1000 := fun i => Nat.le_trans (small_get h i) (by omega)
theorem sm3 (h : Small ds 370) (id : Int) : (ofD ds id).Pairs.length ≤ 400 := Nat.le_trans (ofP_len (id := id) h) (by omega)
theorem small_don (h : Small ds 369) : Small (doN ds c) 370 := by
  unfold doN
  split
  · exact small_mono h (by omega)
  · refine ⟨by simp; have := h.1; omega, fun d hd => ?_, fun d hd => ?_⟩
    · rcases List.mem_append.1 hd with g | g
      · exact Nat.le_trans (h.2.1 d g) (by omega)
      · rw [List.mem_singleton.1 g]; exact Nat.zero_le _
    · rcases List.mem_append.1 hd with g | g
      · exact h.2.2 d g
      · rw [List.mem_singleton.1 g]; intro p hp; cases hp
theorem isAlt_of (hs : isSphere base alts = true) {a : DataSet} (ha : a ∈ alts) : a.KeyLength ≤ 32 ∧ 1 ≤ a.AltLength ∧ a.AltLength < a.KeyLength := by
  have hf := alt_facts ((sph_facts hs).2.2.1 a ha)
  have hg := R26.isAlt_facts hf.1
  omega
theorem aft_base {A : Option Addr} {C : Nat} (hc : (!(isChange base c)) = false) : (ofD (doD ds c c.Key A C) base.Id).Pairs = chg (ofP ds base.Id) c c.Key := by
  have hc : isChange base c = true := by simpa using hc
  have e : base.Id = c.Id := (kind_le hc).2.2.symm
  show ofP (doD ds c c.Key A C) base.Id = _
  rw [ofP_doD, if_pos e]
theorem kno {p : Prop} (hc : (!(isChange base c)) = false) (hk : ¬ (0 ≤ c.Kind ∧ c.Kind ≤ 3)) : p := by
  have hc : isChange base c = true := by simpa using hc
  exact absurd ⟨(kind_le hc).1, (kind_le hc).2.1⟩ hk
theorem busy_5 (h : (!((isSphere base alts && short (([] ++ l) ++ [c]) 41) && rising [] (([] ++ l) ++ [c]))) = false) : rising [] (([] ++ l) ++ [c]) = true := by simp only [Bool.not_eq_false', Bool.and_eq_true] at h; exact h.2
end
end R27
end Go.Proofs.YtmbinhhlfbgiaaaGreat
