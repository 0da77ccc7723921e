/- Pl27d, Pl26d, Pl27e, C27k, C26g, Pl27f, GvV, C27m in one text. -/
import Derived.Test.YtmbinhhlfbgiaaaGreatUpgradeUnique16
import Derived.Test.YtmbinhhlfbgiaaaGreatUpgradeUnique8
import Derived.Test.YtmbinhhlfbgiaaaGreatUpgradeUnique15
import Derived.Test.YtmbinhhlfbgiaaaGreatUpgradeUnique5
namespace Go.Proofs.YtmbinhhlfbgiaaaGreat
open Go.GV
namespace R27
structure Kept (f : Int → List Pair) (base : DataSet) (alts : List DataSet) (last : Bytes) : Prop where
  srt : Srt (f base.Id)
  klen : ∀ a ∈ alts, ∀ p ∈ f base.Id, (p.key.length : Int) = R26.keys base
  last : base.Org = 1 → ∀ p ∈ f base.Id, ¬ Ord.lt last p.key
  alt : ∀ a ∈ alts, IsIx a (f a.Id) (f base.Id)
section
variable {ds : List Data} {base : DataSet} {alts : List DataSet} {c : Change} {l : List Change} {key : Bytes} {f : Int → List Pair} {last : Bytes}
theorem chg_srt {q : List Pair} (h : Srt q) (c : Change) (key : Bytes) : Srt (chg q c key) := by
  unfold chg
  split
  · exact (set_put h _).1
  · split
    · exact (set_erase h _).1
    · split
      · exact (set_put h _).1
      · split
        · exact List.Pairwise.nil
        · exact h
theorem kind_le (h : isChange base c = true) : 0 ≤ c.Kind ∧ c.Kind ≤ 3 ∧ c.Id = base.Id := by
  unfold isChange kindOk at h
  simp only [Bool.and_eq_true, decide_eq_true_eq] at h
  have h2 := h.2
  refine (fun x : 0 ≤ c.Kind ∧ c.Kind ≤ 3 => ⟨x.1, x.2, h.1.1⟩) ?_
  by_cases h3 : c.Kind = 3
  · omega
  rw [if_neg h3] at h2
  split at h2
  · split at h2
    · omega
    · split at h2
      · omega
      · cases h2
  · split at h2
    · split at h2
      · omega
      · cases h2
    · split at h2
      · omega
      · split at h2
        · omega
        · cases h2
theorem change_facts (h : isChange base c = true) (hv : R26.isBase base = true) (ho : base.Org = 3 ∨ base.Org = 1) (h3 : c.Kind ≠ 3) : (c.Key.length : Int) = R26.keys base ∧ (c.Kind = 2 ↔ base.Org = 1) := by
  have hb := R26.isBase_facts hv
  unfold isChange kindOk at h
  simp only [Bool.and_eq_true, decide_eq_true_eq] at h
  have h2 := h.2
  rw [if_neg h3] at h2
  unfold R26.keys
  rcases ho with ho | ho
  · rw [if_pos ho] at h2 ⊢
    have hf := hb.2.2.2.2.2.2.2.2.2.1 ho
    by_cases h1 : c.Kind = 1
    · rw [if_pos h1] at h2
      unfold ck2 at h2
      simp only [Bool.and_eq_true, decide_eq_true_eq] at h2
      exact ⟨h2.1, by omega⟩
    · rw [if_neg h1] at h2
      by_cases h0 : c.Kind = 0
      · rw [if_pos h0] at h2
        unfold ck3 at h2
        simp only [Bool.and_eq_true, decide_eq_true_eq] at h2
        obtain ⟨ha, hb2⟩ := h2
        refine ⟨?_, by omega⟩
        have hvf := R16.valid_facts hb.1
        by_cases hr : (c.Record.length : Int) < base.KeyAt + base.KeyLength ∨ base.Length < c.Record.length
        · rw [of_range hb.1 (by simp [ho]) hr] at ha; cases ha
        · rw [of_ok hb.1 (by simp [ho]) hr] at hb2
          rw [← hb2, sub_length _ _ _ (by omega)]
          have := hvf.2.2.2.2.2.2
          omega
      · rw [if_neg h0] at h2; cases h2
  · rw [if_neg (by omega), if_pos ho] at h2
    rw [if_neg (by omega)]
    by_cases h1 : c.Kind = 2
    · rw [if_pos h1] at h2
      unfold ck4 at h2
      simp only [Bool.and_eq_true, decide_eq_true_eq] at h2
      exact ⟨h2.1.1, by omega⟩
    · rw [if_neg h1] at h2; cases h2
theorem does_base (hp : PlanOk ds base alts c) : does (ofP ds) (plan ds base alts c).1 c.Key base.Id = chg (ofP ds base.Id) c c.Key := by
  have hs := sph_facts hp.sph
  have hid := (kind_le hp.chg).2.2
  have hne : ∀ a ∈ alts, a.Id ≠ base.Id := fun a ha => (alt_facts (hs.2.2.1 a ha)).2.1
  have ho : decide ((own c).Id = base.Id) = true := decide_eq_true ((own_id c).1.trans hid)
  rw [does_at]
  rcases hp.form with ⟨h3, e⟩ | ⟨h3, old, th, e, _⟩
  · rw [e, List.filter_cons, if_pos ho]
    have : (alts.map fun a => Change.mk 3 a.Id [] [] []).filter (fun c => decide (c.Id = base.Id)) = [] := by
      rw [List.filter_eq_nil_iff]; intro x hx h2
      obtain ⟨a, ha, rfl⟩ := List.mem_map.1 hx
      exact hne a ha (of_decide_eq_true h2)
    rw [this, List.foldl_cons, List.foldl_nil, own_chg]
  · rw [e, List.filter_cons, if_pos ho, List.filter_append, flat_other (er_id) hne, flat_other (pu_id) hne]
    rw [List.append_nil, List.foldl_cons, List.foldl_nil, own_chg]
theorem isIx_nil (a : DataSet) : IsIx a [] [] := ⟨List.Pairwise.nil, fun p => ⟨fun h => (by cases h), fun h => (by have := h.2; unfold R26.ents at this; cases this)⟩⟩
theorem kept_step (hp : PlanOk ds base alts c) (hK : Kept (ofP ds) base alts last) (hr : c.Kind = 2 → Ord.lt last c.Key) : Kept (does (ofP ds) (plan ds base alts c).1 c.Key) base alts (if c.Kind = 2 then c.Key else last) := by
  have hs := sph_facts hp.sph
  have hki := kind_le hp.chg
  have hB := does_base hp
  have hlast : base.Org = 1 → c.Kind = 2 → ∀ p ∈ ofP ds base.Id, p.key ≠ c.Key := fun ho h2 p hpm e => hK.last ho p hpm (e ▸ hr h2)
  -- the base
  have hmem : c.Kind ≠ 3 → ∀ p, p ∈ chg (ofP ds base.Id) c c.Key ↔ (p ∈ ofP ds base.Id ∧ p.key ≠ c.Key) ∨ (c.Kind ≠ 1 ∧ p = ⟨c.Key, c.Record⟩) := fun h3 p => by
    by_cases h0 : c.Kind = 0
    · rw [← chg0 h0, (set_put hK.srt _).2]
      constructor
      · rintro (h | h)
        · exact .inl h
        · exact .inr ⟨by omega, h⟩
      · rintro (h | h)
        · exact .inl h
        · exact .inr h.2
    · by_cases h1 : c.Kind = 1
      · rw [← chg1 h1, (set_erase hK.srt _).2]
        constructor
        · exact fun h => .inl h
        · rintro (h | h)
          · exact h
          · exact absurd h1 h.1
      · have h2 : c.Kind = 2 := by omega
        rw [← chg2 h2, (set_put hK.srt _).2]
        constructor
        · rintro (h | h)
          · exact .inl h
          · exact .inr ⟨by omega, h⟩
        · rintro (h | h)
          · exact .inl h
          · exact .inr h.2
  refine ⟨by rw [hB]; exact chg_srt hK.srt _ _, ?_, ?_, ?_⟩
  · intro a ha p hpm
    have hf := alt_facts (hs.2.2.1 a ha)
    rw [hB] at hpm
    by_cases h3 : c.Kind = 3
    · rw [← chg3 h3] at hpm; cases hpm
    · have hbb : R26.isBase base = true := by
        have := hs.2.2.1 a ha; unfold R26.valid at this; simp only [Bool.and_eq_true] at this; exact this.1.1.1
      have hcf := change_facts hp.chg hbb hf.2.2.2 h3
      rcases (hmem h3 p).1 hpm with h | h
      · exact hK.klen a ha p h.1
      · rw [h.2]; exact hcf.1
  · intro ho p hpm
    rw [hB] at hpm
    by_cases h3 : c.Kind = 3
    · rw [← chg3 h3] at hpm; cases hpm
    · rcases (hmem h3 p).1 hpm with h | h
      · by_cases h2 : c.Kind = 2
        · rw [if_pos h2]
          intro hlt
          exact hK.last ho p h.1 (Ord.trans (hr h2) hlt)
        · rw [if_neg h2]; exact hK.last ho p h.1
      · by_cases h2 : c.Kind = 2
        · rw [if_pos h2, h.2]; exact Ord.irr _
        · -- an entry-sequenced base has appends alone
          exfalso
          have hc := hp.chg
          unfold isChange kindOk at hc
          simp only [Bool.and_eq_true, decide_eq_true_eq] at hc
          have := hc.2
          rw [if_neg h3, if_neg (by omega), if_pos ho, if_neg h2] at this
          cases this
  · intro a ha
    have hf := alt_facts (hs.2.2.1 a ha)
    have hbb : R26.isBase base = true := by
      have := hs.2.2.1 a ha; unfold R26.valid at this; simp only [Bool.and_eq_true] at this; exact this.1.1.1
    rw [hB]
    rw [does_at]
    have ho : ¬ decide ((own c).Id = a.Id) = true := by
      rw [decide_eq_true_eq, (own_id c).1, hki.2.2]; exact fun e => hf.2.1 e.symm
    rcases hp.form with ⟨h3, e⟩ | ⟨h3, old, th, e, ht2, ht1, hth, hnt⟩
    · rw [e, List.filter_cons, if_neg ho, ← chg3 h3]
      have hex : (alts.map fun a => Change.mk 3 a.Id [] [] []) = alts.flatMap fun a => [Change.mk 3 a.Id [] [] []] := by
        induction alts with
        | nil => rfl
        | cons b l ih => rw [List.map_cons, List.flatMap_cons]; simp [List.map_eq_flatMap]
      rw [hex, flat_id (fun a x hx => by rw [List.mem_singleton] at hx; subst hx; rfl) alts hs.2.2.2 a ha, List.foldl_cons, List.foldl_nil, ← chg3 rfl]
      exact isIx_nil a
    · have hcf := change_facts hp.chg hbb hf.2.2.2 h3
      rw [e, List.filter_cons, if_neg ho, List.filter_append, flat_id er_id alts hs.2.2.2 a ha, flat_id pu_id alts hs.2.2.2 a ha]
      refine alt_step (hK.alt a ha) hK.srt (hK.klen a ha) hf.2.2.1 hcf.1 (hmem h3) hth fun htf => ?_
      by_cases h2 : c.Kind = 2
      · exact hlast (hcf.2.1 h2) h2
      · exact hnt htf h2
theorem gtB_iff {a b : Bytes} : gtB a b = true ↔ Ord.lt b a := by
  unfold gtB
  rw [Bool.not_eq_true', Bool.or_eq_false_iff, decide_eq_false_iff_not]
  constructor
  · rintro ⟨h1, h2⟩
    rcases Ord.tri a b with h | h | h
    · unfold Ord.lt at h; rw [h1] at h; cases h
    · exact absurd h h2
    · exact h
  · intro h
    refine ⟨?_, fun e => Ord.irr _ (e ▸ h)⟩
    cases hh : Op.bytesLess a b with
    | false => rfl
    | true => exact absurd h (Ord.asymm hh)
def lastK (l : List Change) : Bytes := l.foldl (fun last c => if c.Kind = 2 then c.Key else last) []
def rising : Bytes → List Change → Bool
  | _, [] => true
  | last, c :: l => if c.Kind = 2 then Op.bytesLess last c.Key && rising c.Key l else rising last l
theorem lastK_succ {k : Nat} (hk : k < l.length) : lastK (l.take (k + 1)) = if (l.getD k default).Kind = 2 then (l.getD k default).Key else lastK (l.take k) := by
  unfold lastK
  rw [R02.fold_take _ _ l default k hk]
theorem rising_at : ∀ (l : List Change) (last : Bytes), rising last l = true → ∀ k, k < l.length → (l.getD k default).Kind = 2 → Ord.lt ((l.take k).foldl (fun last c => if c.Kind = 2 then c.Key else last) last) (l.getD k default).Key
  | [], _, _, k, hk, _ => absurd hk (Nat.not_lt_zero _)
  | c :: l, last, h, 0, _, h2 => by
    unfold rising at h
    have h2 : c.Kind = 2 := h2
    rw [if_pos h2, Bool.and_eq_true] at h
    exact h.1
  | c :: l, last, h, k + 1, hk, h2 => by
    unfold rising at h
    have hk : k < l.length := by simpa using hk
    have h2 : (l.getD k default).Kind = 2 := h2
    rw [List.take_succ_cons, List.foldl_cons]
    show Ord.lt _ (l.getD k default).Key
    split at h
    · next hc => rw [if_pos hc]; rw [Bool.and_eq_true] at h; exact rising_at l c.Key h.2 k hk h2
    · next hc => rw [if_neg hc]; exact rising_at l last h k hk h2
theorem rise_yes {last : Bytes} {k : Nat} (hk : k < l.length) (h2 : (l.getD k default).Kind = 2) : rising last (l.drop k) = (Op.bytesLess last (l.getD k default).Key && rising (l.getD k default).Key (l.drop (k + 1))) := by
  rw [List.drop_eq_getElem_cons hk]
  have e : l.getD k default = l[k] := by rw [List.getD_eq_getElem?_getD, List.getElem?_eq_getElem hk]; rfl
  rw [e] at h2 ⊢
  show (if l[k].Kind = 2 then _ else _) = _
  rw [if_pos h2]
theorem rise_no {last : Bytes} {k : Nat} (hk : k < l.length) (h2 : ¬ (l.getD k default).Kind = 2) : rising last (l.drop k) = rising last (l.drop (k + 1)) := by
  rw [List.drop_eq_getElem_cons hk]
  have e : l.getD k default = l[k] := by rw [List.getD_eq_getElem?_getD, List.getElem?_eq_getElem hk]; rfl
  rw [e] at h2
  show (if l[k].Kind = 2 then _ else _) = _
  rw [if_neg h2]
theorem le_lt (a b : Bytes) : Op.bytesLess b a = !(Op.bytesLess a b || decide (a = b)) := by
  rw [Bool.eq_iff_iff]; exact (gtB_iff (a := a) (b := b)).symm
theorem rise_step {R : Bool} {last : Bytes} {k : Nat} (hk : k < l.length) (h2 : (l.getD k default).Kind = 2) (h : (Op.bytesLess (l.getD k default).Key last || decide ((l.getD k default).Key = last)) = false) (hr : R = rising last (l.drop k)) : R = rising (l.getD k default).Key (l.drop (k + 1)) := by
  rw [hr, rise_yes hk h2, le_lt, h]; rfl
theorem rise_skip {R : Bool} {last : Bytes} {k : Nat} (hk : k < l.length) (h2 : ¬ (l.getD k default).Kind = 2) (hr : R = rising last (l.drop k)) : R = rising last (l.drop (k + 1)) := by rw [hr, rise_no hk h2]
theorem rise_bad {R : Bool} {last : Bytes} {k : Nat} (hk : k < l.length) (h2 : (l.getD k default).Kind = 2) (h : (Op.bytesLess (l.getD k default).Key last || decide ((l.getD k default).Key = last)) = true) (hr : R = rising last (l.drop k)) : false = R := by
  rw [hr, rise_yes hk h2, le_lt, h]; rfl
theorem rise_end {R : Bool} {last : Bytes} {k : Nat} (hk : l.length ≤ k) (hr : R = rising last (l.drop k)) : true = R := by
  rw [hr, List.drop_eq_nil_of_le hk]; rfl
def Small (ds : List Data) (n : Nat) : Prop := ds.length ≤ n ∧ (∀ d ∈ ds, d.Pairs.length ≤ n) ∧ Shorts ds
theorem small_get {n : Nat} (h : Small ds n) (i : Nat) : (ds.getD i default).Pairs.length ≤ n := by
  by_cases hi : i < ds.length
  · rw [List.getD_eq_getElem?_getD, List.getElem?_eq_getElem hi]; exact h.2.1 _ (List.getElem_mem hi)
  · rw [List.getD_eq_getElem?_getD, List.getElem?_eq_none (by omega)]; exact Nat.zero_le _
theorem small_mono {n m : Nat} (h : Small ds n) (hm : n ≤ m) : Small ds m := ⟨Nat.le_trans h.1 hm, fun d hd => Nat.le_trans (h.2.1 d hd) hm, h.2.2⟩
theorem repl_mem {id : Int} {v : List Pair} {A : Option Addr} {C : Nat} {d : Data} : ∀ {ds : List Data}, d ∈ repl id v A C ds → d ∈ ds ∨ d.Pairs = v
  | [], h => by cases h
  | y :: l, h => by
    unfold repl at h
    split at h
    · rcases List.mem_cons.1 h with h | h
      · exact .inr (by rw [h])
      · exact .inl (by simp [h])
    · rcases List.mem_cons.1 h with h | h
      · exact .inl (by simp [h])
      · rcases repl_mem h with h | h
        · exact .inl (by simp [h])
        · exact .inr h
theorem ofP_in {id : Int} : ofP ds id = [] ∨ ∃ d ∈ ds, ofP ds id = d.Pairs := by
  unfold ofP ofD
  cases h : ds.find? fun x => decide (x.Id = id) with
  | none => exact .inl rfl
  | some d => exact .inr ⟨d, List.mem_of_find?_eq_some h, rfl⟩
theorem doD_mem {A : Option Addr} {C : Nat} {d : Data} (h : d ∈ doD ds c key A C) : d ∈ ds ∨ ∃ q, d.Pairs = chg q c key ∧ (q = [] ∨ ∃ y ∈ ds, q = y.Pairs) := by
  unfold doD at h
  split at h
  · rcases repl_mem h with h | h
    · exact .inl h
    · exact .inr ⟨_, h, ofP_in⟩
  · rcases List.mem_append.1 h with h | h
    · exact .inl h
    · rw [List.mem_singleton] at h; exact .inr ⟨[], by rw [h], .inl rfl⟩
theorem small_do {n : Nat} (h : Small ds n) (hk : c.Key.length ≤ 1000 ∧ c.Record.length ≤ 1000) (hkey : key.length ≤ 1000) (A : Option Addr) (C : Nat) : Small (doD ds c key A C) (n + 1) := by
  refine ⟨Nat.le_trans (doD_len ds c key A C) (Nat.succ_le_succ h.1), fun d hd => ?_, fun d hd p hp => ?_⟩
  · rcases doD_mem hd with hd | ⟨q, e, hq⟩
    · exact Nat.le_succ_of_le (h.2.1 d hd)
    · rw [e]
      refine Nat.le_trans (chg_len q c key) (Nat.succ_le_succ ?_)
      rcases hq with rfl | ⟨y, hy, rfl⟩
      · exact Nat.zero_le _
      · exact h.2.1 y hy
  · rcases doD_mem hd with hd | ⟨q, e, hq⟩
    · exact h.2.2 d hd p hp
    · rw [e] at hp
      have hin : ∀ p ∈ q, p.key.length ≤ 1000 ∧ p.record.length ≤ 1000 := fun p hp => by
        rcases hq with rfl | ⟨y, hy, rfl⟩
        · cases hp
        · exact h.2.2 y hy p hp
      unfold chg at hp
      split at hp
      · rcases setP_mem0 hp with h1 | h1
        · exact hin p h1
        · rw [h1]; exact hk
      · split at hp
        · rcases setP_mem0 hp with h1 | h1
          · exact hin p h1
          · rw [h1]; exact ⟨hk.1, Nat.zero_le _⟩
        · split at hp
          · rcases setP_mem0 hp with h1 | h1
            · exact hin p h1
            · rw [h1]; exact ⟨hkey, hk.2⟩
          · split at hp
            · cases hp
            · exact hin p hp
theorem plan_mem (h0 : (plan ds base alts c).2 = 0) (hc : c.Key.length ≤ 100 ∧ c.Record.length ≤ 300) : ∀ x ∈ (plan ds base alts c).1, (x.Key.length ≤ 1000 ∧ x.Record.length ≤ 1000) ∧ 0 ≤ x.Kind ∧ x.Kind ≤ 3 := by
  have hp := plan_ok h0
  have hki := kind_le hp.chg
  have hown : ((own c).Key.length ≤ 1000 ∧ (own c).Record.length ≤ 1000) ∧ 0 ≤ (own c).Kind ∧ (own c).Kind ≤ 3 := by
    rw [(own_id c).2.1, (own_id c).2.2]
    refine ⟨⟨?_, by omega⟩, hki.1, hki.2.1⟩
    unfold own; split
    · exact Nat.zero_le _
    · omega
  have hkl : ∀ {a : DataSet} {r : Bytes}, (R26.key a r).2 = true → (R26.key a r).1.length ≤ 100 := fun h => by
    have := R26.key_facts h; omega
  intro x hx
  rcases hp.form with ⟨h3, e⟩ | ⟨h3, old, th, e, _⟩
  · rw [e] at hx
    rcases List.mem_cons.1 hx with rfl | hx
    · exact hown
    · obtain ⟨a, _, rfl⟩ := List.mem_map.1 hx
      exact ⟨⟨Nat.zero_le _, Nat.zero_le _⟩, (show (0 : Int) ≤ 3 by decide), (show (3 : Int) ≤ 3 by decide)⟩
  · rw [e] at hx
    rcases List.mem_cons.1 hx with rfl | hx
    · exact hown
    · rcases List.mem_append.1 hx with hx | hx
      · obtain ⟨a, _, hx⟩ := List.mem_flatMap.1 hx
        unfold er at hx
        split at hx
        · next hc1 =>
          rw [List.mem_singleton] at hx; subst hx
          unfold C1 had at hc1
          simp only [Bool.and_eq_true] at hc1
          have := hkl hc1.1.1
          refine ⟨⟨?_, Nat.zero_le _⟩, (show (0 : Int) ≤ 1 by decide), (show (1 : Int) ≤ 3 by decide)⟩
          rw [List.length_append]; omega
        · cases hx
      · obtain ⟨a, _, hx⟩ := List.mem_flatMap.1 hx
        unfold pu at hx
        split at hx
        · next hc1 =>
          rw [List.mem_singleton] at hx; subst hx
          unfold C2 has at hc1
          simp only [Bool.and_eq_true] at hc1
          have := hkl hc1.1.1
          have e : ((R26.key a c.Record).1 ++ c.Key).length ≤ 1000 := by rw [List.length_append]; omega
          exact ⟨⟨e, e⟩, (show (0 : Int) ≤ 0 by decide), (show (0 : Int) ≤ 3 by decide)⟩
        · cases hx
theorem plan_none (h : (plan ds base alts c).2 ≠ 0) : (plan ds base alts c).1 = [] := by
  unfold plan at h ⊢
  split
  · rfl
  · next h1 =>
    rw [if_neg h1] at h
    split
    · next h3 => rw [if_pos h3] at h; exact absurd rfl h
    · next h3 =>
      rw [if_neg h3] at h
      split
      · rfl
      · next h4 =>
        rw [if_neg h4] at h
        split
        · rfl
        · next h5 => rw [if_neg h5] at h; exact absurd rfl h
theorem er_len (old : Bytes) (th : Bool) : ∀ l : List DataSet, (l.flatMap (er c old th)).length ≤ l.length
  | [] => Nat.le_refl _
  | a :: l => by
    rw [List.flatMap_cons, List.length_append, List.length_cons]
    have := er_len old th l
    have : (er c old th a).length ≤ 1 := by unfold er; split <;> simp
    omega
theorem pu_len (old : Bytes) (th : Bool) : ∀ l : List DataSet, (l.flatMap (pu c old th)).length ≤ l.length
  | [] => Nat.le_refl _
  | a :: l => by
    rw [List.flatMap_cons, List.length_append, List.length_cons]
    have := pu_len old th l
    have : (pu c old th a).length ≤ 1 := by unfold pu; split <;> simp
    omega
theorem plan_head (h0 : (plan ds base alts c).2 = 0) : (plan ds base alts c).1.length ≤ 1 + 2 * alts.length ∧ 0 < (plan ds base alts c).1.length ∧ ((plan ds base alts c).1.getD 0 default).Id = base.Id ∧ ((plan ds base alts c).1.getD 0 default).Kind = c.Kind ∧ ((plan ds base alts c).1.getD 0 default).Record = c.Record := by
  have hp := plan_ok h0
  have hki := kind_le hp.chg
  have ho := own_id c
  rcases hp.form with ⟨h3, e⟩ | ⟨h3, old, th, e, _⟩
  · rw [e]
    refine ⟨?_, by simp, ho.1.trans hki.2.2, ho.2.1, ho.2.2⟩
    rw [List.length_cons, List.length_map]; omega
  · rw [e]
    refine ⟨?_, by simp, ho.1.trans hki.2.2, ho.2.1, ho.2.2⟩
    rw [List.length_cons, List.length_append]
    have := er_len (c := c) old th alts
    have := pu_len (c := c) old th alts
    omega
theorem plan_tail (h0 : (plan ds base alts c).2 = 0) {j : Nat} (hj : 0 < j) (hj2 : j < (plan ds base alts c).1.length) (hk : ((plan ds base alts c).1.getD j default).Kind ≠ 3) : ∃ u, ((plan ds base alts c).1.getD j default).Key = u ++ c.Key := by
  have hp := plan_ok h0
  obtain ⟨i, rfl⟩ : ∃ i, j = i + 1 := ⟨j - 1, by omega⟩
  have hget : ∀ {α : Type} [Inhabited α] (m : List α) (i : Nat), i < m.length → m.getD i default ∈ m := fun m i hi => by
    rw [List.getD_eq_getElem?_getD, List.getElem?_eq_getElem hi]; exact List.getElem_mem hi
  rcases hp.form with ⟨h3, e⟩ | ⟨h3, old, th, e, _⟩
  · rw [e] at hk hj2
    have hm := hget (alts.map fun a => Change.mk 3 a.Id [] [] []) i (by simpa using hj2)
    obtain ⟨a, _, hx⟩ := List.mem_map.1 hm
    refine absurd ?_ hk
    show ((alts.map fun a => Change.mk 3 a.Id [] [] []).getD i default).Kind = 3
    rw [← hx]
  · rw [e] at hk hj2 ⊢
    show ∃ u, ((alts.flatMap (er c old th) ++ alts.flatMap (pu c old th)).getD i default).Key = u ++ c.Key
    have hm := hget (alts.flatMap (er c old th) ++ alts.flatMap (pu c old th)) i (by simpa using hj2)
    generalize (alts.flatMap (er c old th) ++ alts.flatMap (pu c old th)).getD i default = x at hm
    rcases List.mem_append.1 hm with hx | hx
    · obtain ⟨a, _, hx⟩ := List.mem_flatMap.1 hx
      unfold er at hx
      split at hx
      · rw [List.mem_singleton] at hx; subst hx; exact ⟨_, rfl⟩
      · cases hx
    · obtain ⟨a, _, hx⟩ := List.mem_flatMap.1 hx
      unfold pu at hx
      split at hx
      · rw [List.mem_singleton] at hx; subst hx; exact ⟨_, rfl⟩
      · cases hx
theorem short_at {m : Int} (h : short l m = true) (k : Nat) : (l.getD k default).Key.length ≤ 100 ∧ (l.getD k default).Record.length ≤ 300 := by
  by_cases hk : k < l.length
  · unfold short at h
    simp only [Bool.and_eq_true, List.all_eq_true] at h
    have := h.1 _ (List.getElem_mem hk)
    rw [List.getD_eq_getElem?_getD, List.getElem?_eq_getElem hk]
    show l[k].Key.length ≤ 100 ∧ l[k].Record.length ≤ 300
    unfold longC at this
    simp only [Bool.not_eq_true', Bool.or_eq_false_iff, decide_eq_false_iff_not] at this
    omega
  · rw [List.getD_eq_getElem?_getD, List.getElem?_eq_none (by omega)]; exact ⟨Nat.zero_le _, Nat.zero_le _⟩
theorem short_len2 {m : Int} (h : short l m = true) : ((l.length : Nat) : Int) ≤ m := by
  unfold short at h
  simp only [Bool.and_eq_true, decide_eq_true_eq] at h
  exact h.2
theorem plan_at (h0 : (plan ds base alts c).2 = 0) (hc : c.Key.length ≤ 100 ∧ c.Record.length ≤ 300) (j : Nat) : (((plan ds base alts c).1.getD j default).Key.length ≤ 1000 ∧ ((plan ds base alts c).1.getD j default).Record.length ≤ 1000) ∧ 0 ≤ ((plan ds base alts c).1.getD j default).Kind ∧ ((plan ds base alts c).1.getD j default).Kind ≤ 3 := by
  by_cases hj : j < (plan ds base alts c).1.length
  · have hm : (plan ds base alts c).1.getD j default ∈ (plan ds base alts c).1 := by rw [List.getD_eq_getElem?_getD, List.getElem?_eq_getElem hj]; exact List.getElem_mem hj
    exact plan_mem h0 hc _ hm
  · rw [List.getD_eq_getElem?_getD, List.getElem?_eq_none (by omega)]
    exact ⟨⟨Nat.zero_le _, Nat.zero_le _⟩, (show (0 : Int) ≤ 0 by decide), (show (0 : Int) ≤ 3 by decide)⟩
theorem run_b1 (h : (plan ds base alts c).2 ≠ 0) (h2 : (0 : Int) < (((plan ds base alts c).1.length : Nat) : Int)) : False := by
  rw [plan_none h] at h2; exact absurd h2 (by decide)
theorem run_t1 (h0 : (plan ds base alts c).2 = 0) {j : Nat} (hj : (0 : Int) < (j : Int)) (hj2 : (j : Int) < (((plan ds base alts c).1.length : Nat) : Int)) (hk : ((plan ds base alts c).1.getD j default).Kind ≠ 3) (h : ((((plan ds base alts c).1.getD j default).Key.length : Nat) : Int) < ((c.Key.length : Nat) : Int)) : False := by
  obtain ⟨u, hu⟩ := plan_tail h0 (by omega) (by omega) hk
  rw [hu, List.length_append] at h; omega
theorem run_t2 (h0 : (plan ds base alts c).2 = 0) {j : Nat} (hj : (0 : Int) < (j : Int)) (hj2 : (j : Int) < (((plan ds base alts c).1.length : Nat) : Int)) (hk : ((plan ds base alts c).1.getD j default).Kind ≠ 3) (h : sub ((plan ds base alts c).1.getD j default).Key (((((plan ds base alts c).1.getD j default).Key.length : Nat) : Int) - ((c.Key.length : Nat) : Int)).toNat ((plan ds base alts c).1.getD j default).Key.length ≠ c.Key) : False := by
  obtain ⟨u, hu⟩ := plan_tail h0 (by omega) (by omega) hk
  refine h ?_
  rw [hu, List.length_append, show (((u.length + c.Key.length : Nat) : Int) - ((c.Key.length : Nat) : Int)).toNat = u.length by omega]
  unfold sub
  rw [List.take_of_length_le (by rw [List.length_append]; exact Nat.le_refl _), List.drop_left]
def Reach (base : DataSet) (alts : List DataSet) (l : List Change) (k : Nat) (ds : List Data) : Prop := Kept (ofP ds) base alts (lastK (l.take k)) ∧ Small ds (9 * k)
def Mid (base : DataSet) (alts : List DataSet) (c : Change) (k : Nat) (ds : List Data) (j : Nat) (ds2 : List Data) : Prop := (∀ id, ofP ds2 id = does (ofP ds) ((plan ds base alts c).1.take j) c.Key id) ∧ Small ds2 (9 * k + j)
theorem reach_start : Reach base alts l 0 [] := by
  refine ⟨⟨List.Pairwise.nil, ?_, ?_, fun a _ => isIx_nil a⟩, Nat.le_refl _, ?_, ?_⟩
  · intro a _ p hp; cases hp
  · intro _ p hp; cases hp
  · intro d hd; cases hd
  · intro d hd; cases hd
theorem mid_start {k : Nat} (h : Reach base alts l k ds) : Mid base alts c k ds 0 ds := ⟨fun _ => rfl, h.2⟩
theorem mid_step {k j : Nat} {ds2 : List Data} (h0 : (plan ds base alts c).2 = 0) (hc : c.Key.length ≤ 100 ∧ c.Record.length ≤ 300) (hj : j < (plan ds base alts c).1.length) (h : Mid base alts c k ds j ds2) (A : Option Addr) (C : Nat) : Mid base alts c k ds (j + 1) (doD ds2 ((plan ds base alts c).1.getD j default) c.Key A C) := by
  have hm : (plan ds base alts c).1.getD j default ∈ (plan ds base alts c).1 := by rw [List.getD_eq_getElem?_getD, List.getElem?_eq_getElem hj]; exact List.getElem_mem hj
  refine ⟨fun id => ?_, small_do h.2 (plan_mem h0 hc _ hm).1 (by omega) A C⟩
  rw [ofP_doD, List.take_succ_eq_append_getElem hj, does_app]
  show _ = if id = ((plan ds base alts c).1[j]).Id then chg (does (ofP ds) ((plan ds base alts c).1.take j) c.Key id) (plan ds base alts c).1[j] c.Key else does (ofP ds) ((plan ds base alts c).1.take j) c.Key id
  rw [← h.1 id]
  have e : (plan ds base alts c).1.getD j default = (plan ds base alts c).1[j] := by rw [List.getD_eq_getElem?_getD, List.getElem?_eq_getElem hj]; rfl
  rw [e]
theorem reach_next {k : Nat} {ds2 : List Data} {j : Nat} (hk : k < l.length) (hr : rising [] l = true) (h : Reach base alts l k ds) (h0 : (plan ds base alts (l.getD k default)).2 = 0) (hj : (plan ds base alts (l.getD k default)).1.length ≤ j) (hj2 : j ≤ 9) (hm : Mid base alts (l.getD k default) k ds j ds2) : Reach base alts l (k + 1) ds2 := by
  have hp := plan_ok h0
  have hst := kept_step hp h.1 (fun h2 => rising_at l [] hr k hk h2)
  rw [← lastK_succ hk] at hst
  refine ⟨?_, small_mono hm.2 (by omega)⟩
  have e : ofP ds2 = does (ofP ds) (plan ds base alts (l.getD k default)).1 (l.getD k default).Key := by
    funext id; rw [hm.1 id, List.take_of_length_le hj]
  rw [e]; exact hst
theorem reach_skip {k : Nat} (hk : k < l.length) (hr : rising [] l = true) (h : Reach base alts l k ds) : Reach base alts l (k + 1) ds := by
  refine ⟨⟨h.1.srt, h.1.klen, fun ho p hp => ?_, h.1.alt⟩, small_mono h.2 (by omega)⟩
  rw [lastK_succ hk]
  split
  · next h2 => intro hlt; exact h.1.last ho p hp (Ord.trans (rising_at l [] hr k hk h2) hlt)
  · exact h.1.last ho p hp
end
end R27
end Go.Proofs.YtmbinhhlfbgiaaaGreat

namespace Go.Proofs.YtmbinhhlfbgiaaaGreat
open Go.GV
namespace R26
theorem recs_sorted (a : DataSet) (l : List Pair) : (recs a l).Pairwise Ord.lt := (Ord.cs_spec (ents a l)).1
theorem recs_mem (a : DataSet) (l : List Pair) (s : Bytes) : s ∈ recs a l ↔ s ∈ ents a l := (Ord.cs_spec (ents a l)).2 s
section
variable {a : DataSet} {l : List Pair} {k : Nat} {f W : List Bytes}
theorem lt_split : ∀ (n : Nat) (x y : Bytes), x.length = y.length → Ord.lt x y → Ord.lt (x.take n) (y.take n) ∨ (x.take n = y.take n ∧ Ord.lt (x.drop n) (y.drop n))
  | 0, x, y, _, h => .inr ⟨rfl, h⟩
  | n + 1, [], y, hl, h => by
    cases y with
    | nil => exact absurd h (Ord.irr _)
    | cons _ _ => simp at hl
  | n + 1, _ :: _, [], hl, _ => by simp at hl
  | n + 1, u :: x, v :: y, hl, h => by
    rw [Ord.lt_cons] at h
    simp only [List.take_succ_cons, List.drop_succ_cons]
    rcases h with h | ⟨h, h2⟩
    · exact .inl (Ord.lt_cons.2 (.inl h))
    · rcases lt_split n x y (by simpa using hl) h2 with h3 | ⟨h3, h4⟩
      · exact .inl (Ord.lt_cons.2 (.inr ⟨h, h3⟩))
      · exact .inr ⟨by rw [h3, UInt8.toNat_inj.1 h], h4⟩
def Wants (a : DataSet) (l : List Pair) (W : List Bytes) : Prop := W.Nodup ∧ ∀ s, s ∈ W ↔ s ∈ ents a l
end
end R26
end Go.Proofs.YtmbinhhlfbgiaaaGreat

namespace Go.Proofs.YtmbinhhlfbgiaaaGreat
open Go.GV
namespace Ord
theorem lt_app : ∀ (k : Bytes) {u v : Bytes}, lt (k ++ u) (k ++ v) ↔ lt u v
  | [], _, _ => Iff.rfl
  | x :: k, u, v => by
    rw [List.cons_append, List.cons_append, lt_cons, lt_app k]
    constructor
    · rintro (h | h)
      · omega
      · exact h.2
    · exact fun h => .inr ⟨rfl, h⟩
theorem lt_pre : ∀ {u k : Bytes} (v : Bytes), u.length = k.length → lt u k → lt (u ++ v) k
  | [], [], v, _, h => absurd h (irr _)
  | x :: u, y :: k, v, hl, h => by
    rw [List.cons_append, lt_cons] at *
    rcases h with h | h
    · exact .inl h
    · exact .inr ⟨h.1, lt_pre v (by simpa using hl) h.2⟩
theorem lt_ext : ∀ (k : Bytes) {v : Bytes}, v ≠ [] → lt k (k ++ v)
  | [], [], h => absurd rfl h
  | [], _ :: _, _ => rfl
  | x :: k, v, h => by rw [List.cons_append, lt_cons]; exact .inr ⟨rfl, lt_ext k h⟩
end Ord
namespace R27
theorem begins_iff {s k : Bytes} : begins s k = true ↔ s.take k.length = k := by
  unfold begins sub
  simp only [Bool.and_eq_true, decide_eq_true_eq, List.drop_zero]
  constructor
  · exact fun h => h.2
  · intro h
    refine ⟨?_, h⟩
    have := congrArg List.length h
    rw [List.length_take] at this; omega
section
variable {A B : List Pair} {a : DataSet} {k at_ : Bytes}
theorem nextR_head (A : List Pair) (at_ : Bytes) : nextR A at_ = match A.filter (fun p => gtB p.key at_) with
  | [] => ([], [], 6)
  | p :: _ => (p.key, p.record, 0) := by
  unfold nextR
  rw [← List.head?_filter]
  cases A.filter (fun p => gtB p.key at_) <;> rfl
theorem after_head {p : Pair} {t : List Pair} (hA : Srt A) (h : A.filter (fun p => gtB p.key at_) = p :: t) : A.filter (fun q => gtB q.key p.key) = t ∧ Ord.lt at_ p.key ∧ ∀ q ∈ t, Ord.lt p.key q.key := by
  have hs : Srt (p :: t) := by rw [← h]; exact List.Pairwise.sublist List.filter_sublist hA
  obtain ⟨h1, _⟩ := List.pairwise_cons.1 hs
  have hp : gtB p.key at_ = true := (List.mem_filter.1 (by rw [h]; simp : p ∈ A.filter (fun p => gtB p.key at_))).2
  have hp := gtB_iff.1 hp
  refine ⟨?_, hp, h1⟩
  have e : A.filter (fun q => gtB q.key p.key) = (A.filter (fun q => gtB q.key at_)).filter (fun q => gtB q.key p.key) := by
    rw [List.filter_filter]
    refine List.filter_congr fun q _ => ?_
    cases hq : gtB q.key p.key with
    | false => rfl
    | true => rw [gtB_iff.2 (Ord.trans hp (gtB_iff.1 hq))]; rfl
  rw [e, h, List.filter_cons, if_neg (by rw [gtB_iff]; exact Ord.irr _), List.filter_eq_self]
  exact fun q hq => gtB_iff.2 (h1 q hq)
theorem findGo_eq (hA : Srt A) (hl : ∀ p ∈ A, (p.key.length : Int) = a.KeyLength) : ∀ (m : Nat) (at_ : Bytes) (out : List Bytes), (at_ = k ∨ Ord.lt k at_) → (A.filter (fun p => gtB p.key at_)).length ≤ m →
    findGo A a k m at_ out = (out ++ ((A.filter (fun p => gtB p.key at_)).filter (fun p => begins p.key k)).map (fun p => p.key.drop k.length), 0)
  | 0, at_, out, _, hm => by
    have : A.filter (fun p => gtB p.key at_) = [] := List.length_eq_zero_iff.1 (by omega)
    rw [this]; simp [findGo]
  | m + 1, at_, out, hk, hm => by
    have hn := nextR_head A at_
    cases hG : A.filter (fun p => gtB p.key at_) with
    | nil => rw [hG] at hn; rw [findGo, hn]; simp
    | cons p t =>
      rw [hG] at hn
      obtain ⟨h1, h2, h3⟩ := after_head hA hG
      have hpA : p ∈ A := (List.mem_filter.1 (by rw [hG]; simp : p ∈ A.filter (fun p => gtB p.key at_))).1
      have hkp : Ord.lt k p.key := by
        rcases hk with rfl | hk
        · exact h2
        · exact Ord.trans hk h2
      rw [findGo, hn]
      simp only [ne_eq, not_true, if_false, hl p hpA]
      by_cases hb : begins p.key k = true
      · rw [if_neg (by rw [hb]; decide)]
        rw [findGo_eq hA hl m p.key _ (.inr hkp) (by rw [h1]; rw [hG, List.length_cons] at hm; omega), h1, List.filter_cons, if_pos hb]
        simp
      · rw [if_pos ((Bool.not_eq_true _).mp hb)]
        have : (p :: t).filter (fun p => begins p.key k) = [] := by
          rw [List.filter_eq_nil_iff]
          intro q hq hbq
          rcases List.mem_cons.1 hq with rfl | hq
          · exact hb hbq
          · refine hb (begins_iff.2 ?_)
            have hbq := begins_iff.1 hbq
            have hqA : q ∈ A := (List.mem_filter.1 (by rw [hG]; simp [hq] : q ∈ A.filter (fun p => gtB p.key at_))).1
            have hlen : p.key.length = q.key.length := by have := hl p hpA; have := hl q hqA; omega
            have hkl : k.length ≤ q.key.length := by have := congrArg List.length hbq; rw [List.length_take] at this; omega
            rcases R26.lt_split k.length p.key q.key hlen (h3 q hq) with h4 | h4
            · rw [hbq] at h4
              have h5 := Ord.lt_pre (p.key.drop k.length) (by rw [List.length_take]; omega) h4
              rw [List.take_append_drop] at h5
              exact absurd hkp (Ord.asymm h5)
            · exact h4.1.trans hbq
        rw [this]; simp
def wantK (a : DataSet) (k : Bytes) (B : List Pair) : List Bytes := B.flatMap fun x => if (R26.key a x.record).2 = true ∧ (R26.key a x.record).1 = k then [x.key] else []
theorem wantK_mem {s : Bytes} : s ∈ wantK a k B ↔ ∃ x ∈ B, ((R26.key a x.record).2 = true ∧ (R26.key a x.record).1 = k) ∧ s = x.key := by
  unfold wantK
  rw [List.mem_flatMap]
  constructor
  · rintro ⟨x, hx, h⟩
    split at h
    · next hh => exact ⟨x, hx, hh, by simpa using h⟩
    · cases h
  · rintro ⟨x, hx, h1, rfl⟩
    exact ⟨x, hx, by rw [if_pos h1]; simp⟩
theorem wantK_srt : ∀ {B : List Pair}, Srt B → (wantK a k B).Pairwise Ord.lt
  | [], _ => List.Pairwise.nil
  | x :: B, h => by
    obtain ⟨h1, h2⟩ := List.pairwise_cons.1 h
    have ih := wantK_srt h2
    unfold wantK at ih ⊢
    rw [List.flatMap_cons]
    split
    · rw [List.singleton_append, List.pairwise_cons]
      refine ⟨fun s hs => ?_, ih⟩
      obtain ⟨y, hy, _, rfl⟩ := wantK_mem.1 hs
      exact h1 y hy
    · rw [List.nil_append]; exact ih
theorem isIx_len (hi : IsIx a A B) {p : Pair} (hp : p ∈ A) : (p.key.length : Int) = a.KeyLength ∧ p.record = p.key := by
  have h := (hi.2 p).1 hp
  obtain ⟨x, hx, h1, h2, e⟩ := mem_ents.1 h.2
  have hf := R26.key_facts h1
  refine ⟨?_, h.1⟩
  rw [e, List.length_append]; omega
theorem find_list (hi : IsIx a A B) (hB : Srt B) (hn : ∀ p ∈ B, (p.key.length : Int) = a.KeyLength - a.AltLength) (hk : (k.length : Int) = a.AltLength) (m : Nat) (hm : A.length ≤ m) : findGo A a k m k [] = (wantK a k B, 0) := by
  rw [findGo_eq hi.1 (fun p hp => (isIx_len hi hp).1) m k [] (.inl rfl) (Nat.le_trans (List.length_filter_le _ _) hm), List.nil_append]
  congr 1
  have hmem : ∀ p, p ∈ (A.filter (fun p => gtB p.key k)).filter (fun p => begins p.key k) ↔ p ∈ A ∧ p.key.take k.length = k := fun p => by
    rw [List.mem_filter, List.mem_filter, begins_iff, gtB_iff]
    constructor
    · exact fun h => ⟨h.1.1, h.2⟩
    · rintro ⟨h1, h2⟩
      refine ⟨⟨h1, ?_⟩, h2⟩
      have hne : p.key.drop k.length ≠ [] := fun e => by
        obtain ⟨x, hx, g1, g2, g3⟩ := mem_ents.1 ((hi.2 p).1 h1).2
        have hf := R26.key_facts g1
        have := congrArg List.length e
        rw [List.length_drop, List.length_nil, g3, List.length_append] at this
        omega
      have := Ord.lt_ext k hne
      rw [← h2] at this
      have e : (p.key.take k.length) ++ p.key.drop k.length = p.key := List.take_append_drop _ _
      rw [h2] at this e
      rwa [e] at this
  refine Ord.unique ?_ (wantK_srt hB) fun s => ?_
  · rw [List.pairwise_map]
    have hs : Srt ((A.filter (fun p => gtB p.key k)).filter (fun p => begins p.key k)) := List.Pairwise.sublist (List.filter_sublist.trans List.filter_sublist) hi.1
    refine List.Pairwise.imp_of_mem (fun {p q} hp hq h => ?_) hs
    have e1 := ((hmem p).1 hp).2
    have e2 := ((hmem q).1 hq).2
    rw [← List.take_append_drop k.length p.key, ← List.take_append_drop k.length q.key, e1, e2] at h
    exact (Ord.lt_app k).1 h
  · rw [List.mem_map, wantK_mem]
    constructor
    · rintro ⟨p, hp, rfl⟩
      have h := (hmem p).1 hp
      obtain ⟨x, hx, g1, g2, g3⟩ := mem_ents.1 ((hi.2 p).1 h.1).2
      have hf := R26.key_facts g1
      have hl : (R26.key a x.record).1.length = k.length := by omega
      have e := h.2
      rw [g3, ← hl, List.take_left] at e
      refine ⟨x, hx, ⟨g1, e⟩, ?_⟩
      rw [g3, ← hl, List.drop_left]
    · rintro ⟨x, hx, ⟨g1, g2⟩, rfl⟩
      have hin : Pair.mk (k ++ x.key) (k ++ x.key) ∈ A := (hi.2 _).2 ⟨rfl, mem_ents.2 ⟨x, hx, g1, hn x hx, by rw [g2]⟩⟩
      exact ⟨_, (hmem _).2 ⟨hin, List.take_left⟩, List.drop_left⟩
variable {ds : List Data} {base : DataSet} {alts : List DataSet} {l : List Change}
theorem ofP_len {n : Nat} {id : Int} (h : Small ds n) : (ofP ds id).length ≤ n := by
  rcases ofP_in (ds := ds) (id := id) with e | ⟨d, hd, e⟩
  · rw [e]; exact Nat.zero_le _
  · rw [e]; exact h.2.1 d hd
theorem alt_at {i : Nat} (hi : i < alts.length) : alts.getD i default ∈ alts := by
  rw [List.getD_eq_getElem?_getD, List.getElem?_eq_getElem hi]; exact List.getElem_mem hi
end
end R27
end Go.Proofs.YtmbinhhlfbgiaaaGreat

namespace Go.Proofs.YtmbinhhlfbgiaaaGreat
open Go.GV
set_option linter.unusedVariables false
set_option linter.unusedSimpArgs false
theorem c27k0_ {p : Prop} (h : p := by first | exact R27.rise_bad (by omega) (by assumption) (by assumption) i1_1 | exact R27.rise_end (by omega) i1_1) : p := h
theorem c27k2_ {p : Prop} (h : p := by first | exact R27.rise_step (by omega) (by assumption) (by assumption) i1_1 | exact R27.rise_skip (by omega) (by assumption) i1_1) : p := h
set_option maxRecDepth 20000 in
theorem f23_ok (l : List Change) (lA : Option Addr) (lC : Nat) (w : World) (lR : RO [] w lA (l.flatMap Change.enc)) (q0 : l.length ≤ 9223372036854775807) : Calls Tryz.prog 23 #[vL lA l.length lC] w (Gives [] w fun v L => v = vB (R27.rising [] l) ∧ L = []) := by
 refine calls_J [] 29 Tryz.func23 rfl Tryz.ntmps23 [(0, _)] rfl rfl (Give.nil w) ?_
 refine q_ (g_ (s_ av_ (z_ (n_ (q_ (g_ (s_ av_ (z_ (n_ (q_ (q_ (g_ (s_ av_ (z_ (n_ (k_ ?_))))))))))))))))
 refine J_loop (X := Nat × Bytes) (fun (⟨k, last⟩ : Nat × Bytes) => (k ≤ l.length) ∧ (R27.rising [] l = R27.rising last (l.drop k))) (fun (⟨k, last⟩ : Nat × Bytes) => [(0, vL lA l.length lC), (3, vS last), (4, vI ((k : Nat) : Int))]) (fun (⟨k, last⟩ : Nat × Bytes) => []) (fun (⟨k, last⟩ : Nat × Bytes) => l.length - k) ((0, []) : Nat × Bytes) ?_ ⟨rfl, rfl, rfl, trivial⟩ (fun _ h => h) ?_
 ·try dsimp only
  refine ⟨?_, ?_⟩
  ·first | rfl | omega | (simp_all; done) | (simp_all; omega)
  ·rfl
 rintro ⟨k, last⟩ hI1
 obtain ⟨i1_0, i1_1⟩ := hI1
 try dsimp only at i1_0
 try dsimp only at i1_1
 try dsimp only
 refine q_ (q_ (g_ (s_ mv_ (s_ mv_ (s_ (lnS Tryz.underlying25) (s_ (x_lss_i rfl rfl) (z_ (n_ ?_))))))))
 refine ifd (fun h1w h1 => ?_) (fun h1w h1 => ?_)
 ·refine sk_ (n_ (q_ (k_ (q_ (g_ (s_ mv_ (s_ mv_ (r_ (ixF Change.enc_len (cells_ro lR) Tryz.underlying25 Ty.sz27) (s_ (fB0 Ty.fi27_0) (r_ (ldF0 Change.enc_len (cells_ro lR) Ty.sc3) (s_ (x_eql_i rfl rfl) (z_ (n_ ?_)))))))))))))
  refine ifd (fun h2w h2 => ?_) (fun h2w h2 => ?_)
  ·refine q_ (q_ (g_ (s_ mv_ (s_ mv_ (r_ (ixF Change.enc_len (cells_ro lR) Tryz.underlying25 Ty.sz27) (s_ (fB Ty.fi27_2) (r_ (ldF 2 Change.enc_len (cells_ro lR) Ty.sc9) (s_ mv_ (s_ (x_leq_s rfl rfl) (z_ (n_ ?_)))))))))))
   refine if_ (fun h3 => ?_) (fun h3 => ?_)
   ·have h3w := h3
    simp only [Bool.and_eq_true, Bool.or_eq_true, Bool.and_eq_false_iff, Bool.or_eq_false_iff, Bool.not_eq_true', Bool.not_eq_false', decide_eq_true_eq, decide_eq_false_iff_not] at h3
    refine q_ (g_ (s_ av_ (z_ (xk_ [0, 3, 4, 2] ?_))))
    refine n_ (rt_ (nr_ (kq_ (nr_ (rr_ (kq_ (nr_ ?_)))))))
    exact p1 Tryz.results23 rfl ⟨(eB c27k0_), rfl⟩
   ·have h3w := h3
    have ⟨h3, h4⟩ := bor_false h3
    have h4 := of_decide_eq_false h4
    refine sk_ (n_ (g_ (s_ mv_ (s_ mv_ (r_ (ixF Change.enc_len (cells_ro lR) Tryz.underlying25 Ty.sz27) (s_ (fB Ty.fi27_2) (r_ (ldF 2 Change.enc_len (cells_ro lR) Ty.sc9) (s_ av_ (z_ (kx_ (n_ (g_ (s_ mv_ (s_ (x_add_n (a := k) (b := 1) rfl rfl (by omega)) ?_))))))))))))))
    refine s_ av_ (z_ ?_)
    refine JX_round ((k + 1, (l.getD k default).Key) : Nat × Bytes) ?_ ?_ ⟨rfl, rfl, rfl, trivial⟩ (fun _ h => h)
    ·try dsimp only
     refine ⟨?_, ?_⟩
     ·first | rfl | omega | (simp_all; done) | (simp_all; omega)
     ·exact c27k2_
    ·try dsimp only
     first | omega | (simp; omega) | (simp_all; omega)
  ·refine sk_ (kx_ (n_ (g_ (s_ mv_ (s_ (x_add_n (a := k) (b := 1) rfl rfl (by omega)) (s_ av_ (z_ ?_)))))))
   refine JX_round ((k + 1, last) : Nat × Bytes) ?_ ?_ ⟨rfl, rfl, rfl, trivial⟩ (fun _ h => h)
   ·try dsimp only
    refine ⟨?_, ?_⟩
    ·first | rfl | omega | (simp_all; done) | (simp_all; omega)
    ·exact c27k2_
   ·try dsimp only
    first | omega | (simp; omega) | (simp_all; omega)
 ·refine J_exit (ne_ (re_ (kh_ (n_ (q_ ?_)))))
  refine g_ (s_ av_ (z_ (n_ (rt_ ?_))))
  exact p1 Tryz.results23 rfl ⟨(eB c27k0_), rfl⟩
set_option maxRecDepth 20000 in
theorem f6_ok (base : DataSet) (alts : List DataSet) (altsA : Option Addr) (altsC : Nat) (l : List Change) (lA : Option Addr) (lC : Nat) (w : World) (altsR : RO [] w altsA (alts.flatMap DataSet.enc)) (lR : RO [] w lA (l.flatMap Change.enc)) (q0 : alts.length ≤ 9223372036854775807) (q1 : l.length ≤ 9223372036854775807) : Calls Tryz.prog 6 #[vG (DataSet.enc base), vL altsA alts.length altsC, vL lA l.length lC] w (Gives [] w fun v L => v = vB (((R27.isSphere base alts) && (R27.short l 41)) && (R27.rising [] l)) ∧ L = []) := by
 refine calls_J [] 18 Tryz.func6 rfl Tryz.ntmps6 [(0, _), (1, _), (2, _)] rfl rfl (Give.nil w) ?_
 refine q_ (g_ (o_ (bxG fun b1 => ?_)))
 refine s_ av_ (z_ (n_ (q_ (g_ (r_ (ldN 0 (DataSet.enc base) Ty.ag23 Ty.sz23) (s_ mv_ (c0 (cl_ Ty.ca21) (fun w hS => f21_ok base alts _ _ w (rno altsR hS) hy_) (s_ mv_ ?_))))))))
 refine and_ 2 (R27.short l 41) (fun g2 => ?_) ?_
 ·have g2r := g2
  have hi3 := R27.isSphere_valid g2r
  refine sg_ g2 mv_ (c0g g2 (cl_ Ty.ca22) (fun w hS => f22_ok l lA lC 41 w (rno lR hS) hy_) ?_)
  exact cr_
 refine s_ mv_ ?_
 refine and_ 2 (R27.rising [] l) (fun g4 => ?_) ?_
 ·have g4r := g4
  have ⟨g4r, h5⟩ := band_true g4r
  have hi6 := R27.isSphere_valid g4r
  have hi7 := R27.short_len2 h5
  refine sg_ g4 mv_ (c0g g4 (cl_ Ty.ca23) (fun w hS => f23_ok l lA lC w (rno lR hS) hy_) ?_)
  exact cr_
 refine s_ av_ (z_ (n_ (rt_ ?_)))
 exact p1 Tryz.results6 rfl ⟨rfl, rfl⟩
set_option maxRecDepth 20000 in
theorem f11_ok (ds : List Data) (dsA : Option Addr) (dsC : Nat) (id : Int) (w : World) (dsR : RO [] w dsA (ds.flatMap Data.enc)) (dsN : ∀ i : Nat, RO [] w (ds.getD i default).PairsA (((ds.getD i default).Pairs).flatMap Pair.enc)) (q0 : ds.length ≤ 1000) (q1 : ∀ i, (ds.getD i default).Pairs.length ≤ 1000) : Calls Tryz.prog 11 #[vG [vL dsA ds.length dsC, Value.pointer none], vI id] w (Gives [] w fun v L => v = vL ((R27.ofD ds id).PairsA) ((R27.ofD ds id).Pairs.length) ((R27.ofD ds id).PairsC) ∧ L = []) := by
 refine calls_J [] 8 Tryz.func11 rfl Tryz.ntmps11 [(0, _), (1, _)] rfl rfl (Give.nil w) ?_
 refine q_ (g_ (o_ (bxG fun b1 => ?_)))
 refine s_ av_ (z_ (n_ (q_ (g_ (r_ (ldN 0 [vL dsA ds.length dsC, Value.pointer none] Ty.ag33 Ty.sz33) (s_ mv_ (c0 (cl_ Ty.ca34) (fun w hS => f34_ok ds dsA dsC id w (rno dsR hS) (fun i => (dsN i).on hS (fun _ h => by cases h)) hy_ hy_) ?_)))))))
 have ha2 := R27.ofD_len (by assumption) id
 refine s_ av_ (z_ (n_ (rt_ ?_)))
 exact p1 Tryz.results11 rfl ⟨rfl, rfl⟩
end Go.Proofs.YtmbinhhlfbgiaaaGreat

namespace Go.Proofs.YtmbinhhlfbgiaaaGreat
open Go.GV
set_option linter.unusedVariables false
set_option linter.unusedSimpArgs false
theorem c26g1_ {p : Prop} (h : p := by first | exact (R26.add_yes (by assumption) (by omega)).symm | exact (R26.add_no (fun h3 => by simp_all; try omega)).symm) : p := h
set_option maxRecDepth 20000 in
theorem f55_ok (x : Pair) (a : Nat) (o : Nat) (xs : List Bytes) (xsA : Option Addr) (xsC : Nat) (xsN : Nat) (alt : DataSet) (w : World) (xsQ : xsN = xs.length) (q0 : x.key.length ≤ 1000) (q1 : x.record.length ≤ 1000) (q2 : xs.length ≤ 1000) (hg : Give (Lown [Ent.blk a 23 (DataSet.enc alt), Ent.blk o 40 [vL xsA xsN xsC], Ent.row (.slice xsA xsN xsC) 9 1 xsN (xs.map vS)]) w [Ent.blk a 23 (DataSet.enc alt), Ent.blk o 40 [vL xsA xsN xsC], Ent.row (.slice xsA xsN xsC) 9 1 xsN (xs.map vS)]) : Calls Tryz.prog 55 #[vG [vS x.key, vS x.record], pB a 0, pB o 0] w (Gives (Lown [Ent.blk a 23 (DataSet.enc alt), Ent.blk o 40 [vL xsA xsN xsC], Ent.row (.slice xsA xsN xsC) 9 1 xsN (xs.map vS)]) w fun v L => ∃ A2 : Option Addr, ∃ c2 : Nat, v = Value.tuple #[] ∧ L = [Ent.blk a 23 (DataSet.enc alt), Ent.blk o 40 [vL A2 ((R26.add alt x xs).length) c2], Ent.row (.slice A2 (R26.add alt x xs).length c2) 9 1 (R26.add alt x xs).length ((R26.add alt x xs).map vS)]) := by
 subst xsQ
 refine calls_J (Lown [Ent.blk a 23 (DataSet.enc alt), Ent.blk o 40 [vL xsA xs.length xsC], Ent.row (.slice xsA xs.length xsC) 9 1 xs.length (xs.map vS)]) 29 Tryz.func55 rfl Tryz.ntmps55 [(0, _), (1, _), (2, _)] rfl rfl hg ?_
 refine q_ (g_ (o_ (bxG fun b1 => ?_)))
 refine z_ (n_ (q_ (g_ (r_ (ldN 1 (DataSet.enc alt) Ty.ag23 Ty.sz23) (s_ (fA 1 Ty.fi54_1) (r_ (ld_ 0 Ty.sc9) (c0 (cl_ Ty.ca53) (fun w hS => f53_ok alt _ w) (s_ mv_ (s_ (ex_ 0) (s_ (ex_ 1) (s_ av_ (s_ av_ ?_))))))))))))
 refine z_ (n_ (q_ ?_))
 refine drB [] 9 Ty.mixed ?_
 refine jp_ 0 rfl mv_ (jp_ 1 rfl mv_ ?_)
 refine jb_ 14 (fun h2 => ?_) (fun h2 => ?_)
 ·have hi3 := R26.key_facts h2
  refine jp_ 2 rfl (fA 0 Ty.fi54_0) (jq_ 3 rfl (ld_ 0 Ty.sc9) (jp_ 4 rfl (x_len_s rfl Tryz.underlying9) (jq_ 5 rfl (ldN 1 (DataSet.enc alt) Ty.ag23 Ty.sz23) (j1_ 6 (jc0_ rfl (cl_ Ty.ca56) (fun w hS => f56_ok alt w hy_ hy_ hy_ hy_) (jp_ 7 rfl (x_eql_i rfl rfl) ?_ (hw := ⟨_, rfl, rfl⟩)) (hw := ⟨_, rfl, rfl⟩)) gm_) (hw := ⟨_, rfl, rfl⟩)) (hw := ⟨_, rfl, rfl⟩)) (hw := ⟨_, rfl, rfl⟩)) (hw := ⟨_, rfl, rfl⟩)
  refine jt_ 8 (vB (decide (((x.key.length : Nat) : Int) = alt.KeyLength - alt.AltLength))) rfl (fun _ _ => rfl) ?_
  refine JA_done (by kernel_rfl) gm_ ?_
  refine n_ ?_
  refine ifd (fun h4w h4 => ?_) (fun h4w h4 => ?_)
  ·refine g_ (r_ (ld_ 2 Ty.sc40) (s_ mv_ (s_ (fA 0 Ty.fi54_0) (r_ (ld_ 0 Ty.sc9) (s_ (x_cat_s rfl rfl (by first | omega | (simp only [List.length_append, List.length_cons, List.length_nil]; omega) | (simp; omega) | (simp_all; omega))) (o_ (O_buildSlice (cs := [vS (((R26.key alt x.record).1) ++ x.key)]) Tryz.underlying40 Ty.sz9 Ty.ze9 (by decide) (by decide) (by kernel_rfl) fun b5 => ?_)))))))
   refine o_ (O_append_m 4 vS xs [((R26.key alt x.record).1) ++ x.key] Tryz.underlying40 Ty.sz9 Ty.by9 Ty.ze9 rfl rfl rfl rfl rfl (fun _ => rfl) (cells_blk 0 (off := 0) (m := 1) rfl rfl) lt_ lt_ fun A6 c7 => ?_)
   refine o_ (st1 3 Ty.sz40 ?_)
   refine z_ ?_
   refine JX_end0 Tryz.results55 [Ent.blk a 23 (DataSet.enc alt), Ent.blk o 40 [vL A6 ((xs ++ [((R26.key alt x.record).1) ++ x.key]).length) c7], Ent.row (.slice A6 (xs ++ [((R26.key alt x.record).1) ++ x.key]).length c7) 9 1 (xs ++ [((R26.key alt x.record).1) ++ x.key]).length ((xs ++ [((R26.key alt x.record).1) ++ x.key]).map vS)] (fun _ h => h.keep [false, false, true, true, true] rfl) ⟨A6, c7, ?_, ?_⟩
   ·rfl
   ·have e_y0 : (xs ++ [((R26.key alt x.record).1) ++ x.key] : List Bytes) = (R26.add alt x xs) := by
     exact c26g1_
    have e_all := (congrArg (fun (y0 : List Bytes) => [Ent.blk a 23 (DataSet.enc alt), Ent.blk o 40 [vL A6 y0.length c7], Ent.row (.slice A6 y0.length c7) 9 1 y0.length (y0.map vS)]) e_y0)
    exact e_all
  ·refine sk_ ?_
   refine JX_end0 Tryz.results55 [Ent.blk a 23 (DataSet.enc alt), Ent.blk o 40 [vL xsA xs.length xsC], Ent.row (.slice xsA xs.length xsC) 9 1 xs.length (xs.map vS)] (fun _ h => h.keep [false, true, true, true] rfl) ⟨xsA, xsC, ?_, ?_⟩
   ·rfl
   ·have e_y0 : (xs : List Bytes) = (R26.add alt x xs) := by
     exact c26g1_
    have e_all := (congrArg (fun (y0 : List Bytes) => [Ent.blk a 23 (DataSet.enc alt), Ent.blk o 40 [vL xsA y0.length xsC], Ent.row (.slice xsA y0.length xsC) 9 1 y0.length (y0.map vS)]) e_y0)
    exact e_all
 ·refine js2_ 2 rfl (js2_ 3 rfl (js2_ 4 rfl (js2_ 5 rfl (js2_ 6 rfl (js2_ 7 rfl ?_)))))
  refine jt_ 8 (vB false) rfl (fun _ _ => rfl) ?_
  refine JA_done (by kernel_rfl) gm_ ?_
  refine n_ (iff_ (sk_ ?_))
  refine JX_end0 Tryz.results55 [Ent.blk a 23 (DataSet.enc alt), Ent.blk o 40 [vL xsA xs.length xsC], Ent.row (.slice xsA xs.length xsC) 9 1 xs.length (xs.map vS)] (fun _ h => h.keep [false, true, true, true] rfl) ⟨xsA, xsC, ?_, ?_⟩
  ·rfl
  ·have e_y0 : (xs : List Bytes) = (R26.add alt x xs) := by
    exact c26g1_
   have e_all := (congrArg (fun (y0 : List Bytes) => [Ent.blk a 23 (DataSet.enc alt), Ent.blk o 40 [vL xsA y0.length xsC], Ent.row (.slice xsA y0.length xsC) 9 1 y0.length (y0.map vS)]) e_y0)
   exact e_all
set_option maxRecDepth 20000 in
theorem f32_ok (alt : DataSet) (l : List Pair) (lA : Option Addr) (lC : Nat) (w : World) (lR : RO [] w lA (l.flatMap Pair.enc)) (q0 : l.length ≤ 1000) (q1 : ∀ i, i < l.length → (l.getD i default).key.length ≤ 1000 ∧ (l.getD i default).record.length ≤ 1000) : Calls Tryz.prog 32 #[vG (DataSet.enc alt), vL lA l.length lC] w (Gives [] w fun v L => ∃ A : Option Addr, ∃ c : Nat, v = vL A ((R26.recs alt l).length) c ∧ L = [Ent.row (.slice A (R26.recs alt l).length c) 9 1 (R26.recs alt l).length ((R26.recs alt l).map vS)]) := by
 refine calls_J [] 24 Tryz.func32 rfl Tryz.ntmps32 [(0, _), (1, _)] rfl rfl (Give.nil w) ?_
 refine q_ (g_ (o_ (bxG fun b1 => ?_)))
 refine s_ av_ (z_ (n_ (q_ (g_ (o_ (al_ Ty.ze40 fun b2 => ?_))))))
 refine z_ (n_ (q_ (g_ (js_ (Value.func (.func 55) #[] #[pB b1 0, pB b2 0]) (x_makeFunc rfl rfl) (s_ av_ (z_ (n_ (q_ (q_ (g_ (s_ mv_ (s_ (lnS Tryz.underlying42) (s_ mv_ (z_ (n_ (k_ ?_))))))))))))))))
 refine J_loop (X := Nat × (List Bytes) × (Option Addr) × Nat) (fun (⟨k, xs, xsA, xsC⟩ : Nat × (List Bytes) × (Option Addr) × Nat) => (k ≤ l.length) ∧ (xs = R26.ents alt (l.take k)) ∧ (xs.length ≤ k)) (fun (⟨k, xs, xsA, xsC⟩ : Nat × (List Bytes) × (Option Addr) × Nat) => [(4, vL none 0 0), (5, pB b2 0), (6, Value.func (.func 55) #[] #[pB b1 0, pB b2 0]), (10, vL lA l.length lC), (11, vI ((l.length : Nat) : Int)), (12, vI ((k : Nat) : Int))]) (fun (⟨k, xs, xsA, xsC⟩ : Nat × (List Bytes) × (Option Addr) × Nat) => [Ent.blk b2 40 [vL xsA xs.length xsC], Ent.blk b1 23 (DataSet.enc alt), Ent.row (.slice xsA xs.length xsC) 9 1 xs.length (xs.map vS)]) (fun (⟨k, xs, xsA, xsC⟩ : Nat × (List Bytes) × (Option Addr) × Nat) => l.length - k) ((0, ([] : List Bytes), none, 0) : Nat × (List Bytes) × (Option Addr) × Nat) ?_ ⟨rfl, rfl, rfl, rfl, rfl, rfl, trivial⟩ (fun _ h => (((h.nilrow 9 1).front 2 _ rfl).front 2 _ rfl).keep [true, true, true] rfl) ?_
 ·try dsimp only
  refine ⟨?_, ?_, ?_⟩
  ·first | rfl | omega | (simp_all; done) | (simp_all; omega)
  ·rfl
  ·exact Nat.le_refl _
 rintro ⟨k, xs, xsA, xsC⟩ hI1
 obtain ⟨i1_0, i1_1, i1_2⟩ := hI1
 try dsimp only at i1_0
 try dsimp only at i1_1
 try dsimp only at i1_2
 have hqk := q1 k
 try dsimp only
 refine q_ (g_ (s_ (x_lss_i rfl rfl) (z_ (n_ (q_ ?_)))))
 refine ifd (fun h3w h3 => ?_) (fun h3w h3 => ?_)
 ·refine sk_ (n_ (q_ (k_ (q_ (g_ (r_ (ixF Pair.enc_len (cells_ro lR) Tryz.underlying42 Ty.sz54) (r_ (ldFN Pair.enc_len (cells_ro lR) Ty.ag54 Ty.sz54) (o_ (al_ Ty.ze54 fun b4 => ?_)))))))))
  refine o_ (stG 0 Ty.sz54 ?_)
  refine z_ (n_ (g_ (s_ mv_ (r_ (ldN 0 [vS ((l.getD k default).key), vS ((l.getD k default).record)] Ty.ag54 Ty.sz54) ?_))))
  refine JO_call (Lown [Ent.blk b1 23 (DataSet.enc alt), Ent.blk b2 40 [vL xsA xs.length xsC], Ent.row (.slice xsA xs.length xsC) 9 1 xs.length (xs.map vS)]) [Ent.blk b1 23 (DataSet.enc alt), Ent.blk b2 40 [vL xsA xs.length xsC], Ent.row (.slice xsA xs.length xsC) 9 1 xs.length (xs.map vS)] [Ent.blk b4 54 [vS ((l.getD k default).key), vS ((l.getD k default).record)]] rfl trivial (fun _ => x_callv (first := []) (caps := [pB b1 0, pB b2 0]) rfl Ty.ca55 rfl) (fun _ h => (((h.front 3 _ rfl).front 2 _ rfl).front 3 _ rfl).keep [true, true, true, true] rfl) lown_mem (fun w hS => f55_ok (l.getD k default) b1 b2 xs xsA xsC xs.length alt w hy_ hy_ hy_ hy_ (hS.give lown_in)) ?_
  rintro _ _ ⟨e5, e6, rfl, rfl⟩
  have ha7 := R26.add_len alt (l.getD k default) xs
  refine z_ (kx_ (n_ (g_ (s_ (x_add_n (a := k) (b := 1) rfl rfl (by omega)) (s_ mv_ (z_ ?_))))))
  refine JX_round ((k + 1, (R26.add alt (l.getD k default) xs), e5, e6) : Nat × (List Bytes) × (Option Addr) × Nat) ?_ ?_ ⟨rfl, rfl, rfl, rfl, rfl, rfl, trivial⟩ (fun _ h => (((h.front 2 _ rfl).front 1 _ rfl).front 2 _ rfl).keep [true, true, true, false] rfl)
  ·try dsimp only
   refine ⟨?_, ?_, ?_⟩
   ·first | rfl | omega | (simp_all; done) | (simp_all; omega)
   ·rw [i1_1]; exact (R26.flat_step (by omega)).symm
   ·omega
  ·try dsimp only
   first | omega | (simp; omega) | (simp_all; omega)
 ·refine J_exit (ne_ (re_ (kh_ (n_ (q_ ?_)))))
  refine g_ (r_ (ld_ 0 Ty.sc40) ?_)
  refine JO_call (Lown [Ent.row (.slice xsA xs.length xsC) 9 1 xs.length (xs.map vS)]) [Ent.row (.slice xsA xs.length xsC) 9 1 xs.length (xs.map vS)] [Ent.blk b2 40 [vL xsA xs.length xsC], Ent.blk b1 23 (DataSet.enc alt)] rfl trivial (fun _ => x_call Ty.ca42 rfl) (fun _ h => (((h.front 1 _ rfl).front 1 _ rfl).front 2 _ rfl).keep [true, true, true] rfl) lown_mem (fun w hS => sort_ok xs xsA xsC xs.length w (by first | rfl | exact (srt_length _).symm) (by first | omega | (rw [srt_length]; omega)) (hS.give lown_in)) ?_
  rintro _ _ ⟨rfl, rfl⟩
  refine z_ (n_ (q_ (g_ (r_ (ld_ 1 Ty.sc40) ?_))))
  refine JO_call (Lown [Ent.row (.slice xsA xs.length xsC) 9 1 xs.length ((srt xs).map vS)]) [Ent.row (.slice xsA xs.length xsC) 9 1 xs.length ((srt xs).map vS)] [Ent.blk b2 40 [vL xsA xs.length xsC], Ent.blk b1 23 (DataSet.enc alt)] rfl trivial (fun _ => x_call Ty.ca57 rfl) (fun _ h => h) lown_mem (fun w hS => compact_ok (srt xs) xsA xsC xs.length w (by first | rfl | exact (srt_length _).symm) (by first | omega | (rw [srt_length]; omega)) (hS.give lown_in)) ?_
  rintro _ _ ⟨rfl, rfl⟩
  refine s_ av_ (z_ (n_ (rt_ ?_)))
  refine JX_rets [_] _ Tryz.results32 (fun w h => ⟨rfl, trivial⟩) rfl _ (fun _ h => h.keep [true, false, false] rfl) ⟨xsA, xsC, ?_, ?_⟩
  ·have e_x0 : ((cmp (srt xs)).length : Nat) = ((R26.recs alt l).length) := by rw [i1_1, show k = l.length by omega, List.take_length]; rfl
   exact congrArg (fun (x0 : Nat) => vL xsA x0 xsC) e_x0
  ·have e_y0 : (cmp (srt xs) : List Bytes) = (R26.recs alt l) := by
    rw [i1_1, show k = l.length by omega, List.take_length]; rfl
   have e_all := (congrArg (fun (y0 : List Bytes) => [Ent.row (.slice xsA y0.length xsC) 9 1 y0.length (y0.map vS)]) e_y0)
   exact e_all
end Go.Proofs.YtmbinhhlfbgiaaaGreat

namespace Go.Proofs.YtmbinhhlfbgiaaaGreat
open Go.GV
namespace R27
theorem take_get {α : Type} {l : List α} {k : Nat} (d : α) (hk : k < l.length) : l.take (k + 1) = l.take k ++ [l.getD k d] := by
  rw [List.take_add_one, List.getElem?_eq_getElem hk]; simp [List.getElem?_eq_getElem hk]
def sets (l : List Bytes) : List Bytes := l.foldl addK []
def Miss (a b xs left zs : List Bytes) : Prop := ∃ ys, zs = xs ++ ys ∧ ys.Nodup ∧ left.Nodup ∧ (∀ s ∈ left, s ∈ a) ∧ ∀ s, s ∈ ys ↔ (s ∈ a ∧ s ∉ b ∧ s ∉ left)
def Got (a b xs zs : List Bytes) : Prop := Miss a b xs [] zs
section
variable {a b xs left zs : List Bytes} {n : Nat} {s : Bytes}
end
def dif (W H : List Bytes) : List Bytes := Ord.insl (W.filter (fun s => decide (s ∉ H)) ++ H.filter (fun s => decide (s ∉ W)))
def flaws (l : List Bytes) : List Flaw := l.map fun s => Flaw.mk 6 0 s
def keysOf (l : List Pair) : List Bytes := l.map (·.key)
def hasS (l : List Bytes) (m : Bytes) : Bool := l.any fun r => decide (r = m)
section
variable {a : DataSet} {A B : List Pair} {i j : Nat} {more : Bytes} {t : Bool}
end
section
variable {ds : List Data} {base : DataSet} {alts : List DataSet} {l : List Change} {n : Nat}
theorem reach_s1 (h : Reach base alts l n ds) (hn : n ≤ 41) : ds.length ≤ 1000 := Nat.le_trans h.2.1 (by omega)
theorem reach_s2 (h : Reach base alts l n ds) (hn : n ≤ 41) : ∀ i, (ds.getD i default).Pairs.length ≤ 1000 := fun i => Nat.le_trans (small_get h.2 i) (by omega)
theorem reach_s3 (h : Reach base alts l n ds) : Shorts ds := h.2.2.2
theorem shorts_of (h : Shorts ds) (id : Int) : ∀ i, i < (ofD ds id).Pairs.length → ((ofD ds id).Pairs.getD i default).key.length ≤ 1000 ∧ ((ofD ds id).Pairs.getD i default).record.length ≤ 1000 := fun i hi => by
  have hm : (ofD ds id).Pairs.getD i default ∈ (ofD ds id).Pairs := by rw [List.getD_eq_getElem?_getD, List.getElem?_eq_getElem hi]; exact List.getElem_mem hi
  rcases ofP_in (ds := ds) (id := id) with e | ⟨d, hd, e⟩
  · have e2 : (ofD ds id).Pairs = [] := e
    rw [e2] at hm; cases hm
  · have e2 : (ofD ds id).Pairs = d.Pairs := e
    rw [e2] at hm ⊢
    exact h d hd _ hm
end
end R27
end Go.Proofs.YtmbinhhlfbgiaaaGreat

namespace Go.GV
theorem St.turn {S : List Nat} {w0 w : World} {L : List Ent} {e e' : Ent} (h : St S w0 w (e :: L)) (ho : e'.own = e.own) (hp : ∀ o, e.prop o → e'.prop o) : St S w0 w (e' :: L) := by
  have hd := List.pairwise_cons.1 h.dis
  refine ⟨h.fr, fun x hx => ?_, List.pairwise_cons.2 ⟨fun x hx b hb => hd.1 x hx b (by rw [← ho]; exact hb), hd.2⟩, fun x hx b hb => ?_⟩
  · rcases List.mem_cons.1 hx with rfl | hx
    · have := h.hold e (by simp)
      exact ⟨by rw [ho]; exact hp _ this.1, fun b hb => this.2 b (by rw [← ho]; exact hb)⟩
    · exact h.hold x (by simp [hx])
  · rcases List.mem_cons.1 hx with rfl | hx
    · exact h.own e (by simp) b (by rw [← ho]; exact hb)
    · exact h.own x (by simp [hx]) b hb
end Go.GV

namespace Go.Proofs.YtmbinhhlfbgiaaaGreat
open Go.GV
set_option linter.unusedVariables false
set_option linter.unusedSimpArgs false
end Go.Proofs.YtmbinhhlfbgiaaaGreat
