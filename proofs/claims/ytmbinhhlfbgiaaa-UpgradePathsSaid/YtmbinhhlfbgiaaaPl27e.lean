/- Pl27e: what Find finds behind a run. -/
import Derived.Test.YtmbinhhlfbgiaaaPl27d
import Derived.Test.YtmbinhhlfbgiaaaPl26d
namespace Go.Proofs.Ytmbinhhlfbgiaaa
open Go.GV
namespace Ord
theorem lt_app : ∀ (k : Bytes) {u v : Bytes}, lt (k ++ u) (k ++ v) ↔ lt u v
  | [], _, _ => Iff.rfl
  | x :: k, u, v => by
    rw [List.cons_append, List.cons_append, lt_cons, lt_app k]
    constructor
    · rintro (h | h)
      · omega
      · exact h.2
    · exact fun h => .inr ⟨rfl, h⟩
theorem lt_pre : ∀ {u k : Bytes} (v : Bytes), u.length = k.length → lt u k → lt (u ++ v) k
  | [], [], v, _, h => absurd h (irr _)
  | x :: u, y :: k, v, hl, h => by
    rw [List.cons_append, lt_cons] at *
    rcases h with h | h
    · exact .inl h
    · exact .inr ⟨h.1, lt_pre v (by simpa using hl) h.2⟩
theorem lt_ext : ∀ (k : Bytes) {v : Bytes}, v ≠ [] → lt k (k ++ v)
  | [], [], h => absurd rfl h
  | [], _ :: _, _ => rfl
  | x :: k, v, h => by rw [List.cons_append, lt_cons]; exact .inr ⟨rfl, lt_ext k h⟩
end Ord
namespace R27
theorem begins_iff {s k : Bytes} : begins s k = true ↔ s.take k.length = k := by
  unfold begins sub
  simp only [Bool.and_eq_true, decide_eq_true_eq, List.drop_zero]
  constructor
  · exact fun h => h.2
  · intro h
    refine ⟨?_, h⟩
    have := congrArg List.length h
    rw [List.length_take] at this; omega
section
variable {A B : List Pair} {a : DataSet} {k at_ : Bytes}
theorem nextR_head (A : List Pair) (at_ : Bytes) : nextR A at_ = match A.filter (fun p => gtB p.key at_) with
  | [] => ([], [], 6)
  | p :: _ => (p.key, p.record, 0) := by
  unfold nextR
  rw [← List.head?_filter]
  cases A.filter (fun p => gtB p.key at_) <;> rfl
theorem after_head {p : Pair} {t : List Pair} (hA : Srt A) (h : A.filter (fun p => gtB p.key at_) = p :: t) : A.filter (fun q => gtB q.key p.key) = t ∧ Ord.lt at_ p.key ∧ ∀ q ∈ t, Ord.lt p.key q.key := by
  have hs : Srt (p :: t) := by rw [← h]; exact List.Pairwise.sublist List.filter_sublist hA
  obtain ⟨h1, _⟩ := List.pairwise_cons.1 hs
  have hp : gtB p.key at_ = true := (List.mem_filter.1 (by rw [h]; simp : p ∈ A.filter (fun p => gtB p.key at_))).2
  have hp := gtB_iff.1 hp
  refine ⟨?_, hp, h1⟩
  have e : A.filter (fun q => gtB q.key p.key) = (A.filter (fun q => gtB q.key at_)).filter (fun q => gtB q.key p.key) := by
    rw [List.filter_filter]
    refine List.filter_congr fun q _ => ?_
    cases hq : gtB q.key p.key with
    | false => rfl
    | true => rw [gtB_iff.2 (Ord.trans hp (gtB_iff.1 hq))]; rfl
  rw [e, h, List.filter_cons, if_neg (by rw [gtB_iff]; exact Ord.irr _), List.filter_eq_self]
  exact fun q hq => gtB_iff.2 (h1 q hq)
theorem findGo_eq (hA : Srt A) (hl : ∀ p ∈ A, (p.key.length : Int) = a.KeyLength) : ∀ (m : Nat) (at_ : Bytes) (out : List Bytes), (at_ = k ∨ Ord.lt k at_) → (A.filter (fun p => gtB p.key at_)).length ≤ m →
    findGo A a k m at_ out = (out ++ ((A.filter (fun p => gtB p.key at_)).filter (fun p => begins p.key k)).map (fun p => p.key.drop k.length), 0)
  | 0, at_, out, _, hm => by
    have : A.filter (fun p => gtB p.key at_) = [] := List.length_eq_zero_iff.1 (by omega)
    rw [this]; simp [findGo]
  | m + 1, at_, out, hk, hm => by
    have hn := nextR_head A at_
    cases hG : A.filter (fun p => gtB p.key at_) with
    | nil => rw [hG] at hn; rw [findGo, hn]; simp
    | cons p t =>
      rw [hG] at hn
      obtain ⟨h1, h2, h3⟩ := after_head hA hG
      have hpA : p ∈ A := (List.mem_filter.1 (by rw [hG]; simp : p ∈ A.filter (fun p => gtB p.key at_))).1
      have hkp : Ord.lt k p.key := by
        rcases hk with rfl | hk
        · exact h2
        · exact Ord.trans hk h2
      rw [findGo, hn]
      simp only [ne_eq, not_true, if_false, hl p hpA]
      by_cases hb : begins p.key k = true
      · rw [if_neg (by rw [hb]; decide)]
        rw [findGo_eq hA hl m p.key _ (.inr hkp) (by rw [h1]; rw [hG, List.length_cons] at hm; omega), h1, List.filter_cons, if_pos hb]
        simp
      · rw [if_pos ((Bool.not_eq_true _).mp hb)]
        have : (p :: t).filter (fun p => begins p.key k) = [] := by
          rw [List.filter_eq_nil_iff]
          intro q hq hbq
          rcases List.mem_cons.1 hq with rfl | hq
          · exact hb hbq
          · refine hb (begins_iff.2 ?_)
            have hbq := begins_iff.1 hbq
            have hqA : q ∈ A := (List.mem_filter.1 (by rw [hG]; simp [hq] : q ∈ A.filter (fun p => gtB p.key at_))).1
            have hlen : p.key.length = q.key.length := by have := hl p hpA; have := hl q hqA; omega
            have hkl : k.length ≤ q.key.length := by have := congrArg List.length hbq; rw [List.length_take] at this; omega
            rcases R26.lt_split k.length p.key q.key hlen (h3 q hq) with h4 | h4
            · rw [hbq] at h4
              have h5 := Ord.lt_pre (p.key.drop k.length) (by rw [List.length_take]; omega) h4
              rw [List.take_append_drop] at h5
              exact absurd hkp (Ord.asymm h5)
            · exact h4.1.trans hbq
        rw [this]; simp
def wantK (a : DataSet) (k : Bytes) (B : List Pair) : List Bytes := B.flatMap fun x => if (R26.key a x.record).2 = true ∧ (R26.key a x.record).1 = k then [x.key] else []
theorem wantK_mem {s : Bytes} : s ∈ wantK a k B ↔ ∃ x ∈ B, ((R26.key a x.record).2 = true ∧ (R26.key a x.record).1 = k) ∧ s = x.key := by
  unfold wantK
  rw [List.mem_flatMap]
  constructor
  · rintro ⟨x, hx, h⟩
    split at h
    · next hh => exact ⟨x, hx, hh, by simpa using h⟩
    · cases h
  · rintro ⟨x, hx, h1, rfl⟩
    exact ⟨x, hx, by rw [if_pos h1]; simp⟩
theorem wantK_srt : ∀ {B : List Pair}, Srt B → (wantK a k B).Pairwise Ord.lt
  | [], _ => List.Pairwise.nil
  | x :: B, h => by
    obtain ⟨h1, h2⟩ := List.pairwise_cons.1 h
    have ih := wantK_srt h2
    unfold wantK at ih ⊢
    rw [List.flatMap_cons]
    split
    · rw [List.singleton_append, List.pairwise_cons]
      refine ⟨fun s hs => ?_, ih⟩
      obtain ⟨y, hy, _, rfl⟩ := wantK_mem.1 hs
      exact h1 y hy
    · rw [List.nil_append]; exact ih
theorem wantK_yes {j : Nat} {W : List Bytes} (hj : j < B.length) (h : W = wantK a k (B.take j)) (h1 : ((R26.key a (B.getD j default).record).2 && decide ((R26.key a (B.getD j default).record).1 = k)) = true) : W ++ [(B.getD j default).key] = wantK a k (B.take (j + 1)) := by
  simp only [Bool.and_eq_true, decide_eq_true_eq] at h1
  unfold wantK at h ⊢
  rw [R26.flat_step (d := default) hj, if_pos h1, ← h]
theorem wantK_no {j : Nat} {W : List Bytes} (hj : j < B.length) (h : W = wantK a k (B.take j)) (h1 : ((R26.key a (B.getD j default).record).2 && decide ((R26.key a (B.getD j default).record).1 = k)) = false) : W = wantK a k (B.take (j + 1)) := by
  have h2 : ¬ ((R26.key a (B.getD j default).record).2 = true ∧ (R26.key a (B.getD j default).record).1 = k) := fun g => by rw [g.1, decide_eq_true g.2] at h1; cases h1
  unfold wantK at h ⊢
  rw [R26.flat_step (d := default) hj, if_neg h2, ← h, List.append_nil]
theorem isIx_len (hi : IsIx a A B) {p : Pair} (hp : p ∈ A) : (p.key.length : Int) = a.KeyLength ∧ p.record = p.key := by
  have h := (hi.2 p).1 hp
  obtain ⟨x, hx, h1, h2, e⟩ := mem_ents.1 h.2
  have hf := R26.key_facts h1
  refine ⟨?_, h.1⟩
  rw [e, List.length_append]; omega
theorem find_list (hi : IsIx a A B) (hB : Srt B) (hn : ∀ p ∈ B, (p.key.length : Int) = a.KeyLength - a.AltLength) (hk : (k.length : Int) = a.AltLength) (m : Nat) (hm : A.length ≤ m) : findGo A a k m k [] = (wantK a k B, 0) := by
  rw [findGo_eq hi.1 (fun p hp => (isIx_len hi hp).1) m k [] (.inl rfl) (Nat.le_trans (List.length_filter_le _ _) hm), List.nil_append]
  congr 1
  have hmem : ∀ p, p ∈ (A.filter (fun p => gtB p.key k)).filter (fun p => begins p.key k) ↔ p ∈ A ∧ p.key.take k.length = k := fun p => by
    rw [List.mem_filter, List.mem_filter, begins_iff, gtB_iff]
    constructor
    · exact fun h => ⟨h.1.1, h.2⟩
    · rintro ⟨h1, h2⟩
      refine ⟨⟨h1, ?_⟩, h2⟩
      have hne : p.key.drop k.length ≠ [] := fun e => by
        obtain ⟨x, hx, g1, g2, g3⟩ := mem_ents.1 ((hi.2 p).1 h1).2
        have hf := R26.key_facts g1
        have := congrArg List.length e
        rw [List.length_drop, List.length_nil, g3, List.length_append] at this
        omega
      have := Ord.lt_ext k hne
      rw [← h2] at this
      have e : (p.key.take k.length) ++ p.key.drop k.length = p.key := List.take_append_drop _ _
      rw [h2] at this e
      rwa [e] at this
  refine Ord.unique ?_ (wantK_srt hB) fun s => ?_
  · rw [List.pairwise_map]
    have hs : Srt ((A.filter (fun p => gtB p.key k)).filter (fun p => begins p.key k)) := List.Pairwise.sublist (List.filter_sublist.trans List.filter_sublist) hi.1
    refine List.Pairwise.imp_of_mem (fun {p q} hp hq h => ?_) hs
    have e1 := ((hmem p).1 hp).2
    have e2 := ((hmem q).1 hq).2
    rw [← List.take_append_drop k.length p.key, ← List.take_append_drop k.length q.key, e1, e2] at h
    exact (Ord.lt_app k).1 h
  · rw [List.mem_map, wantK_mem]
    constructor
    · rintro ⟨p, hp, rfl⟩
      have h := (hmem p).1 hp
      obtain ⟨x, hx, g1, g2, g3⟩ := mem_ents.1 ((hi.2 p).1 h.1).2
      have hf := R26.key_facts g1
      have hl : (R26.key a x.record).1.length = k.length := by omega
      have e := h.2
      rw [g3, ← hl, List.take_left] at e
      refine ⟨x, hx, ⟨g1, e⟩, ?_⟩
      rw [g3, ← hl, List.drop_left]
    · rintro ⟨x, hx, ⟨g1, g2⟩, rfl⟩
      have hin : Pair.mk (k ++ x.key) (k ++ x.key) ∈ A := (hi.2 _).2 ⟨rfl, mem_ents.2 ⟨x, hx, g1, hn x hx, by rw [g2]⟩⟩
      exact ⟨_, (hmem _).2 ⟨hin, List.take_left⟩, List.drop_left⟩
variable {ds : List Data} {base : DataSet} {alts : List DataSet} {l : List Change}
theorem ofP_len {n : Nat} {id : Int} (h : Small ds n) : (ofP ds id).length ≤ n := by
  rcases ofP_in (ds := ds) (id := id) with e | ⟨d, hd, e⟩
  · rw [e]; exact Nat.zero_le _
  · rw [e]; exact h.2.1 d hd
theorem find_range (hs : isSphere base alts = true) (ha : a ∈ alts) (hk : (k.length : Int) ≠ a.AltLength) : find ds a k 1024 = ([], 2) := by
  have hf := alt_facts ((sph_facts hs).2.2.1 a ha)
  unfold find
  rw [if_neg (by rw [hf.1]; rintro (h | h | h) <;> first | cases h | omega), if_pos hk]
theorem find_paths {n : Nat} (hs : isSphere base alts = true) (hr : Reach base alts l n ds) (hn : n ≤ 100) (ha : a ∈ alts) (hk : ¬ (k.length : Int) ≠ a.AltLength) : find ds a k 1024 = (wantK a k (ofD ds base.Id).Pairs, 0) := by
  have hf := alt_facts ((sph_facts hs).2.2.1 a ha)
  unfold find
  rw [if_neg (by rw [hf.1]; rintro (h | h | h) <;> first | cases h | omega), if_neg hk]
  refine find_list (hr.1.alt a ha) hr.1.srt (fun p hp => ?_) (Decidable.not_not.1 hk) _ ?_
  · rw [hf.2.2.1]; exact hr.1.klen a ha p hp
  · refine Nat.le_trans (ofP_len hr.2) ?_
    have : (1024 : Int).toNat = 1024 := rfl
    omega
theorem paths_b1 {i : Nat} (hi : (i : Int) < ((alts.length : Nat) : Int)) (hs : isSphere base alts = true) (hk : ((k.length : Nat) : Int) ≠ (alts.getD i default).AltLength) (h : (find ds (alts.getD i default) k 1024).2 ≠ 2 ∨ (0 : Int) < (((find ds (alts.getD i default) k 1024).1.length : Nat) : Int)) : False := by
  have ha : alts.getD i default ∈ alts := by rw [List.getD_eq_getElem?_getD, List.getElem?_eq_getElem (by omega)]; exact List.getElem_mem (by omega)
  rw [find_range hs ha hk] at h
  rcases h with h | h
  · exact h rfl
  · exact absurd h (by decide)
theorem paths_b2 {i j : Nat} {W : List Bytes} (hi : (i : Int) < ((alts.length : Nat) : Int)) (hs : isSphere base alts = true) (hr : Reach base alts l l.length ds) (hl : ((l.length : Nat) : Int) ≤ 41) (hk : ¬ ((k.length : Nat) : Int) ≠ (alts.getD i default).AltLength) (hW : W = wantK (alts.getD i default) k ((ofD ds base.Id).Pairs.take j)) (hj : (ofD ds base.Id).Pairs.length ≤ j) (h : (find ds (alts.getD i default) k 1024).2 ≠ 0 ∨ ¬ (find ds (alts.getD i default) k 1024).1 = W) : False := by
  have ha : alts.getD i default ∈ alts := by rw [List.getD_eq_getElem?_getD, List.getElem?_eq_getElem (by omega)]; exact List.getElem_mem (by omega)
  rw [find_paths hs hr (by omega) ha hk] at h
  rw [List.take_of_length_le hj] at hW
  rcases h with h | h
  · exact h rfl
  · exact h hW.symm
end
end R27
end Go.Proofs.Ytmbinhhlfbgiaaa
