/- Pl27c: if plans are done, one after the other, each alternate index has exactly the records for the records of the base. -/
import Derived.Test.YtmbinhhlfbgiaaaPl27b
import Derived.Test.YtmbinhhlfbgiaaaPl26c
namespace Go.Proofs.Ytmbinhhlfbgiaaa
open Go.GV
namespace R27
def Srt (l : List Pair) : Prop := l.Pairwise fun p q => Ord.lt p.key q.key
section
variable {x : Pair} {l : List Pair}
theorem set_true (x : Pair) : ∀ (l o : List Pair), l.foldl (setStep x) (o, true) = (o ++ l.filter (fun p => decide (p.key ≠ x.key)), true)
  | [], o => by simp
  | p :: l, o => by
    rw [List.foldl_cons]
    have hs : setStep x (o, true) p = (if p.key ≠ x.key then o ++ [p] else o, true) := by unfold setStep; simp
    rw [hs, set_true x l, List.filter_cons]
    by_cases h : p.key = x.key
    · simp [h]
    · simp [h]
theorem set_false (x : Pair) : ∀ (l o : List Pair), Srt l → l.foldl (setStep x) (o, false) = if (∀ p ∈ l, Op.bytesLess p.key x.key = true) then (o ++ l, false) else (o ++ l.filter (fun p => Op.bytesLess p.key x.key) ++ [x] ++ l.filter (fun p => Op.bytesLess x.key p.key), true)
  | [], o, _ => by simp
  | p :: l, o, h => by
    obtain ⟨h1, h2⟩ := List.pairwise_cons.1 h
    rw [List.foldl_cons]
    by_cases hb : Op.bytesLess p.key x.key = true
    · have hne : p.key ≠ x.key := fun e => by rw [e, R26.less_self] at hb; cases hb
      have hs : setStep x (o, false) p = (o ++ [p], false) := by unfold setStep; simp [hb, hne]
      have hb2 : Op.bytesLess x.key p.key = false := by
        cases hh : Op.bytesLess x.key p.key with
        | false => rfl
        | true => exact absurd hh (Ord.asymm hb)
      rw [hs, set_false x l _ h2]
      have e : (∀ q ∈ p :: l, Op.bytesLess q.key x.key = true) ↔ ∀ q ∈ l, Op.bytesLess q.key x.key = true := by
        constructor
        · intro h q hq; exact h q (by simp [hq])
        · intro h q hq
          rcases List.mem_cons.1 hq with rfl | hq
          · exact hb
          · exact h q hq
      by_cases hh : ∀ q ∈ l, Op.bytesLess q.key x.key = true
      · rw [if_pos hh, if_pos (e.2 hh)]; simp
      · rw [if_neg hh, if_neg (fun g => hh (e.1 g))]; simp [List.filter_cons, hb, hb2]
    · have hb := (Bool.not_eq_true _).mp hb
      have hgt : ∀ q ∈ l, Ord.lt x.key q.key := fun q hq => by
        have h3 := h1 q hq
        rcases Ord.not_lt (a := p.key) (b := x.key) (by unfold Ord.lt; rw [hb]; decide) with h4 | h4
        · rw [h4]; exact h3
        · exact Ord.trans h4 h3
      have f1 : l.filter (fun p => Op.bytesLess p.key x.key) = [] := by
        rw [List.filter_eq_nil_iff]; intro q hq h5; exact Ord.asymm (hgt q hq) h5
      have f2 : l.filter (fun p => Op.bytesLess x.key p.key) = l := by
        rw [List.filter_eq_self]; intro q hq; exact hgt q hq
      have f3 : l.filter (fun p => decide (p.key ≠ x.key)) = l := by
        rw [List.filter_eq_self]; intro q hq; rw [decide_eq_true_eq]; intro e; exact Ord.irr _ (e ▸ hgt q hq)
      have hn : ¬ ∀ q ∈ p :: l, Op.bytesLess q.key x.key = true := fun g => by have := g p (by simp); rw [hb] at this; cases this
      rw [if_neg hn]
      by_cases he : p.key = x.key
      · have hs : setStep x (o, false) p = (o ++ [x], true) := by unfold setStep; simp [he, R26.less_self]
        rw [hs, set_true, f3, List.filter_cons, List.filter_cons, hb, f1, he, R26.less_self, f2]; simp
      · have hs : setStep x (o, false) p = (o ++ [x] ++ [p], true) := by unfold setStep; simp [hb, he]
        have hb2 : Op.bytesLess x.key p.key = true := by
          rcases Ord.tri p.key x.key with h4 | h4 | h4
          · unfold Ord.lt at h4; rw [hb] at h4; cases h4
          · exact absurd h4 he
          · exact h4
        rw [hs, set_true, f3, List.filter_cons, List.filter_cons, hb, f1, hb2, f2]; simp
theorem setP_true (l : List Pair) (x : Pair) : setP l x true = l.filter (fun p => decide (p.key ≠ x.key)) := by
  unfold setP setGo; rw [set_true]; simp
theorem setP_false (h : Srt l) (x : Pair) : setP l x false = l.filter (fun p => Op.bytesLess p.key x.key) ++ [x] ++ l.filter (fun p => Op.bytesLess x.key p.key) := by
  unfold setP setGo; rw [set_false x l [] h]
  by_cases hh : ∀ q ∈ l, Op.bytesLess q.key x.key = true
  · rw [if_pos hh]
    have f1 : l.filter (fun p => Op.bytesLess p.key x.key) = l := by rw [List.filter_eq_self]; exact hh
    have f2 : l.filter (fun p => Op.bytesLess x.key p.key) = [] := by
      rw [List.filter_eq_nil_iff]; intro q hq h5; exact Ord.asymm (hh q hq) h5
    rw [f1, f2]; simp
  · rw [if_neg hh]; simp
theorem set_erase (h : Srt l) (x : Pair) : Srt (setP l x true) ∧ ∀ p, p ∈ setP l x true ↔ p ∈ l ∧ p.key ≠ x.key := by
  rw [setP_true]
  exact ⟨List.Pairwise.sublist List.filter_sublist h, fun p => by rw [List.mem_filter, decide_eq_true_eq]⟩
theorem set_put (h : Srt l) (x : Pair) : Srt (setP l x false) ∧ ∀ p, p ∈ setP l x false ↔ (p ∈ l ∧ p.key ≠ x.key) ∨ p = x := by
  rw [setP_false h]
  constructor
  · unfold Srt
    rw [List.append_assoc, List.pairwise_append]
    refine ⟨List.Pairwise.sublist List.filter_sublist h, ?_, ?_⟩
    · rw [List.pairwise_append]
      refine ⟨by simp, List.Pairwise.sublist List.filter_sublist h, ?_⟩
      intro a ha b hb
      rw [List.mem_singleton] at ha; subst ha
      exact (List.mem_filter.1 hb).2
    · intro a ha b hb
      have h1 : Ord.lt a.key x.key := (List.mem_filter.1 ha).2
      rcases List.mem_append.1 hb with hb | hb
      · rw [List.mem_singleton] at hb; subst hb; exact h1
      · exact Ord.trans h1 (List.mem_filter.1 hb).2
  · intro p
    rw [List.mem_append, List.mem_append, List.mem_filter, List.mem_filter, List.mem_singleton]
    constructor
    · rintro ((h1 | h1) | h1)
      · exact .inl ⟨h1.1, fun e => by have := h1.2; rw [e, R26.less_self] at this; cases this⟩
      · exact .inr h1
      · exact .inl ⟨h1.1, fun e => by have := h1.2; rw [e, R26.less_self] at this; cases this⟩
    · rintro (⟨h1, h2⟩ | h1)
      · rcases Ord.tri p.key x.key with h4 | h4 | h4
        · exact .inl (.inl ⟨h1, h4⟩)
        · exact absurd h4 h2
        · exact .inr ⟨h1, h4⟩
      · exact .inl (.inr h1)
theorem srt_inj (h : Srt l) {p q : Pair} (hp : p ∈ l) (hq : q ∈ l) (e : p.key = q.key) : p = q := by
  induction l with
  | nil => cases hp
  | cons y l ih =>
    obtain ⟨h1, h2⟩ := List.pairwise_cons.1 h
    rcases List.mem_cons.1 hp with hp1 | hp1
    · rcases List.mem_cons.1 hq with hq1 | hq1
      · rw [hp1, hq1]
      · have := h1 q hq1; rw [← hp1, e] at this; exact absurd this (Ord.irr _)
    · rcases List.mem_cons.1 hq with hq1 | hq1
      · have := h1 p hp1; rw [← hq1, e] at this; exact absurd this (Ord.irr _)
      · exact ih h2 hp1 hq1
theorem getR_mem (k : Bytes) (l : List Pair) : (∃ old, getR l k = (old, 0) ∧ Pair.mk k old ∈ l) ∨ (getR l k = ([], 6) ∧ ∀ p ∈ l, p.key ≠ k) := by
  unfold getR
  cases h : l.find? fun p => decide (p.key = k) with
  | some p =>
    have h1 : p.key = k := by simpa using List.find?_some h
    have h2 := List.mem_of_find?_eq_some h
    refine .inl ⟨p.record, rfl, ?_⟩
    rw [← h1]; exact h2
  | none =>
    refine .inr ⟨rfl, fun p hp e => ?_⟩
    have := List.find?_eq_none.1 h p hp
    simp [e] at this
end
def does (f : Int → List Pair) (l : List Change) (key : Bytes) : Int → List Pair := l.foldl (fun f c id => if id = c.Id then chg (f id) c key else f id) f
theorem does_app (f : Int → List Pair) (l m : List Change) (key : Bytes) : does f (l ++ m) key = does (does f l key) m key := List.foldl_append
theorem does_at : ∀ (l : List Change) (f : Int → List Pair) (key : Bytes) (id : Int), does f l key id = ((l.filter fun c => decide (c.Id = id)).foldl (fun q c => chg q c key) (f id))
  | [], _, _, _ => rfl
  | c :: l, f, key, id => by
    show does (fun id => if id = c.Id then chg (f id) c key else f id) l key id = _
    rw [does_at l]
    by_cases h : c.Id = id
    · rw [List.filter_cons, if_pos (decide_eq_true h), List.foldl_cons, if_pos h.symm]
    · rw [if_neg (fun e : id = c.Id => h e.symm), List.filter_cons, if_neg (by simp [h])]
def er (c : Change) (old : Bytes) (th : Bool) (a : DataSet) : List Change := if C1 a c old th = true then [⟨1, a.Id, (R26.key a old).1 ++ c.Key, [], []⟩] else []
def pu (c : Change) (old : Bytes) (th : Bool) (a : DataSet) : List Change := if C2 a c old th = true then [⟨0, a.Id, (R26.key a c.Record).1 ++ c.Key, (R26.key a c.Record).1 ++ c.Key, []⟩] else []
section
variable {ds : List Data} {base : DataSet} {alts : List DataSet} {c : Change} {old : Bytes} {th : Bool}
theorem stepA_form (a : DataSet) (xs ys : List Change) : (stepA ds c old th a (xs, ys, 0)).1 = xs ++ er c old th a ∧ (stepA ds c old th a (xs, ys, 0)).2.1 = ys ++ pu c old th a := by
  rw [rp_cases (ds := ds) (xs := xs) (ys := ys) (rfl : C1 a c old th = C1 a c old th) (rfl : C2 a c old th = C2 a c old th)]
  exact ⟨rfl, rfl⟩
theorem stepsA_form : ∀ (l : List DataSet) (xs ys : List Change), (stepsA ds c old th l (xs, ys, 0)).2.2 = 0 → (stepsA ds c old th l (xs, ys, 0)).1 = xs ++ l.flatMap (er c old th) ∧ (stepsA ds c old th l (xs, ys, 0)).2.1 = ys ++ l.flatMap (pu c old th)
  | [], xs, ys, _ => by unfold stepsA; simp
  | a :: l, xs, ys, h => by
    have hc : stepsA ds c old th (a :: l) (xs, ys, 0) = stepsA ds c old th l (stepA ds c old th a (xs, ys, 0)) := rfl
    rw [hc] at h ⊢
    have hf := stepA_form (ds := ds) (c := c) (old := old) (th := th) a xs ys
    generalize hs : stepA ds c old th a (xs, ys, 0) = s at h hf ⊢
    obtain ⟨x1, y1, e⟩ := s
    by_cases he : e = 0
    · subst he
      obtain ⟨h1, h2⟩ := stepsA_form l x1 y1 h
      simp only at hf
      rw [h1, h2, hf.1, hf.2]; simp
    · rw [stepsA_err l (st := (x1, y1, e)) he] at h
      exact absurd h he
structure PlanOk (ds : List Data) (base : DataSet) (alts : List DataSet) (c : Change) : Prop where
  sph : isSphere base alts = true
  chg : isChange base c = true
  form : (c.Kind = 3 ∧ (plan ds base alts c).1 = own c :: alts.map (fun a => Change.mk 3 a.Id [] [] [])) ∨
    (c.Kind ≠ 3 ∧ ∃ old th, (plan ds base alts c).1 = own c :: (alts.flatMap (er c old th) ++ alts.flatMap (pu c old th)) ∧ (c.Kind = 2 → th = false) ∧ (c.Kind = 1 → th = true) ∧
      (th = true → Pair.mk c.Key old ∈ ofP ds base.Id) ∧ (th = false → c.Kind ≠ 2 → ∀ p ∈ ofP ds base.Id, p.key ≠ c.Key))
theorem plan_ok (h : (plan ds base alts c).2 = 0) : PlanOk ds base alts c := by
  have hsc : (isSphere base alts && isChange base c) = true := by
    cases hh : isSphere base alts && isChange base c with
    | true => rfl
    | false => unfold plan at h; rw [if_pos hh] at h; cases h
  have hs := hsc
  simp only [Bool.and_eq_true] at hs
  refine ⟨hs.1, hs.2, ?_⟩
  unfold plan at h ⊢
  rw [if_neg (by rw [hsc]; decide)] at h ⊢
  by_cases h3 : c.Kind = 3
  · rw [if_pos h3] at h ⊢; exact .inl ⟨h3, rfl⟩
  · rw [if_neg h3] at h ⊢
    refine .inr ⟨h3, ?_⟩
    by_cases hA : (oldR ds base c).2 ≠ 0 ∧ ((oldR ds base c).2 ≠ 6 ∨ c.Kind = 1)
    · rw [if_pos hA] at h; exact absurd h hA.1
    · rw [if_neg hA] at h ⊢
      by_cases hE : (steps ds c (oldR ds base c).1 (decide ((oldR ds base c).2 = 0)) alts).2.2 ≠ 0
      · rw [if_pos hE] at h; exact absurd h hE
      · rw [if_neg hE] at h ⊢
        have hf := stepsA_form (ds := ds) (c := c) (old := (oldR ds base c).1) (th := decide ((oldR ds base c).2 = 0)) alts [own c] [] (Decidable.not_not.1 hE)
        refine ⟨(oldR ds base c).1, decide ((oldR ds base c).2 = 0), ?_, ?_, ?_, ?_, ?_⟩
        · unfold steps; rw [hf.1, hf.2]; simp
        · intro h2; rw [oldB h2]; rfl
        · intro h1
          rw [decide_eq_true_eq]
          by_cases h0 : (oldR ds base c).2 = 0
          · exact h0
          · exact absurd ⟨h0, .inr h1⟩ hA
        · intro ht
          rw [decide_eq_true_eq] at ht
          have h2 : c.Kind ≠ 2 := fun h2 => by rw [oldB h2] at ht; cases ht
          rw [oldA h2] at ht ⊢
          rcases getR_mem c.Key (ofD ds base.Id).Pairs with ⟨o, e, hm⟩ | ⟨e, hm⟩
          · rw [e]; exact hm
          · rw [e] at ht; cases ht
        · intro ht h2
          rw [decide_eq_false_iff_not, oldA h2] at ht
          rcases getR_mem c.Key (ofD ds base.Id).Pairs with ⟨o, e, hm⟩ | ⟨e, hm⟩
          · rw [e] at ht; exact absurd rfl ht
          · exact hm
theorem own_id (c : Change) : (own c).Id = c.Id ∧ (own c).Kind = c.Kind ∧ (own c).Record = c.Record := by unfold own; split <;> simp
theorem own_chg (q : List Pair) (c : Change) : chg q (own c) c.Key = chg q c c.Key := by
  unfold own
  split
  · next h => unfold chg; simp [h]
  · rfl
theorem sph_facts (h : isSphere base alts = true) : isBase base = true ∧ alts.length ≤ 4 ∧ (∀ a ∈ alts, R26.valid base a = true) ∧ (alts.map (·.Id)).Nodup := by
  unfold isSphere at h
  simp only [Bool.and_eq_true, decide_eq_true_eq, List.all_eq_true] at h
  refine ⟨h.1.1.1, ?_, h.1.2, h.2⟩
  have := h.1.1.2; omega
theorem alt_facts {a : DataSet} (h : R26.valid base a = true) : R26.isAlt a = true ∧ a.Id ≠ base.Id ∧ a.KeyLength - a.AltLength = R26.keys base ∧ (base.Org = 3 ∨ base.Org = 1) := by
  have h2 := h
  rw [R26.valid_iff] at h2
  simp only [Bool.and_eq_true, decide_eq_true_eq] at h2
  unfold R26.valid at h
  simp only [Bool.and_eq_true, decide_eq_true_eq] at h
  have hb := R26.isBase_facts h.1.1.1
  have hs := (R26.shaped_iff a base.Length).1 h.1.2
  refine ⟨h2.1.1.1.2, ?_, by omega, hb.2.2.2.2.1⟩
  have h5 := hs.2.2.2.2.1
  have h6 := h.1.1.2
  intro e
  exact h5 (h6.trans e.symm)
theorem flat_other {g : DataSet → List Change} (hg : ∀ a, ∀ x ∈ g a, x.Id = a.Id) {l : List DataSet} {id : Int} (h : ∀ a ∈ l, a.Id ≠ id) : (l.flatMap g).filter (fun c => decide (c.Id = id)) = [] := by
  rw [List.filter_eq_nil_iff]; intro x hx h2
  obtain ⟨b, hb, hxb⟩ := List.mem_flatMap.1 hx
  exact h b hb ((hg b x hxb).symm.trans (of_decide_eq_true h2))
theorem flat_id {g : DataSet → List Change} (hg : ∀ a, ∀ x ∈ g a, x.Id = a.Id) (l : List DataSet) (hn : (l.map (·.Id)).Nodup) (a : DataSet) (ha : a ∈ l) : (l.flatMap g).filter (fun c => decide (c.Id = a.Id)) = g a := by
  induction l with
  | nil => cases ha
  | cons b l ih =>
    rw [List.map_cons, List.nodup_cons] at hn
    rw [List.flatMap_cons, List.filter_append]
    rcases List.mem_cons.1 ha with ha | ha
    · subst ha
      rw [flat_other hg (l := l) (id := a.Id) (fun b hb e => hn.1 (List.mem_map.2 ⟨b, hb, e⟩)), List.append_nil, List.filter_eq_self]
      intro x hx; exact decide_eq_true (hg a x hx)
    · rw [ih hn.2 ha]
      have : (g b).filter (fun c => decide (c.Id = a.Id)) = [] := by
        rw [List.filter_eq_nil_iff]; intro x hx h2
        exact hn.1 (List.mem_map.2 ⟨a, ha, ((hg b x hx).symm.trans (of_decide_eq_true h2)).symm⟩)
      rw [this]; rfl
theorem er_id (a : DataSet) : ∀ x ∈ er c old th a, x.Id = a.Id := fun x hx => by
  unfold er at hx; split at hx
  · rw [List.mem_singleton] at hx; subst hx; rfl
  · cases hx
theorem pu_id (a : DataSet) : ∀ x ∈ pu c old th a, x.Id = a.Id := fun x hx => by
  unfold pu at hx; split at hx
  · rw [List.mem_singleton] at hx; subst hx; rfl
  · cases hx
theorem mem_ents {a : DataSet} {l : List Pair} {s : Bytes} : s ∈ R26.ents a l ↔ ∃ x ∈ l, (R26.key a x.record).2 = true ∧ (x.key.length : Int) = a.KeyLength - a.AltLength ∧ s = (R26.key a x.record).1 ++ x.key := by
  unfold R26.ents R26.ent
  rw [List.mem_flatMap]
  constructor
  · rintro ⟨x, hx, h⟩
    split at h
    · next hh => exact ⟨x, hx, hh.1, hh.2, by simpa using h⟩
    · cases h
  · rintro ⟨x, hx, h1, h2, rfl⟩
    exact ⟨x, hx, by rw [if_pos ⟨h1, h2⟩]; simp⟩
def IsIx (a : DataSet) (A B : List Pair) : Prop := Srt A ∧ ∀ p, p ∈ A ↔ (p.record = p.key ∧ p.key ∈ R26.ents a B)
theorem alt_step {a : DataSet} {A B B' : List Pair} {n : Int} (hA : IsIx a A B) (hB : Srt B) (hl : ∀ p ∈ B, (p.key.length : Int) = n) (hn : a.KeyLength - a.AltLength = n) (hk : (c.Key.length : Int) = n)
    (hB' : ∀ p, p ∈ B' ↔ (p ∈ B ∧ p.key ≠ c.Key) ∨ (c.Kind ≠ 1 ∧ p = ⟨c.Key, c.Record⟩)) (ho : th = true → Pair.mk c.Key old ∈ B) (hno : th = false → ∀ p ∈ B, p.key ≠ c.Key) :
    IsIx a ((er c old th a ++ pu c old th a).foldl (fun q x => chg q x c.Key) A) B' := by
  have hsuf : ∀ {x y : Bytes}, (x.length : Int) = n → (y.length : Int) = n → ∀ {u v : Bytes}, u ++ x = v ++ y → u = v ∧ x = y := fun {x y} hx hy {u v} e => by
    have h2 : u.length = v.length := by have := congrArg List.length e; simp only [List.length_append] at this; omega
    exact List.append_inj e h2
  -- what the index must hold
  have want : ∀ s, s ∈ R26.ents a B' ↔ (s ∈ R26.ents a B ∧ ¬ (had a old th = true ∧ s = (R26.key a old).1 ++ c.Key)) ∨ (has a c = true ∧ s = (R26.key a c.Record).1 ++ c.Key) := by
    intro s
    rw [mem_ents, mem_ents]
    constructor
    · rintro ⟨x, hx, h1, h2, rfl⟩
      rcases (hB' x).1 hx with ⟨hxB, hne⟩ | ⟨hk1, rfl⟩
      · refine .inl ⟨⟨x, hxB, h1, h2, rfl⟩, fun ⟨_, e⟩ => hne (hsuf (hl x hxB) hk e).2⟩
      · refine .inr ⟨?_, rfl⟩
        unfold has; rw [decide_eq_true hk1, Bool.and_true]; exact h1
    · rintro (⟨⟨x, hx, h1, h2, rfl⟩, hnot⟩ | ⟨hh, rfl⟩)
      · refine ⟨x, (hB' x).2 (.inl ⟨hx, fun e => ?_⟩), h1, h2, rfl⟩
        cases ht : th with
        | false => exact hno ht x hx e
        | true =>
          have hxo : x = Pair.mk c.Key old := srt_inj hB hx (ho ht) e
          subst hxo
          refine hnot ⟨?_, rfl⟩
          unfold had; rw [ht, Bool.and_true]; exact h1
      · unfold has at hh
        simp only [Bool.and_eq_true, decide_eq_true_eq] at hh
        exact ⟨⟨c.Key, c.Record⟩, (hB' _).2 (.inr ⟨hh.2, rfl⟩), hh.1, by rw [hn]; exact hk, rfl⟩
  have hadin : had a old th = true → (R26.key a old).1 ++ c.Key ∈ R26.ents a B := fun h => by
    unfold had at h
    simp only [Bool.and_eq_true] at h
    exact mem_ents.2 ⟨_, ho h.2, h.1, by rw [hn]; exact hk, rfl⟩
  have e1 : ∀ x : Change, x.Kind = 1 → ∀ q, chg q x c.Key = setP q ⟨x.Key, []⟩ true := fun x hx q => (chg1 hx).symm
  have e0 : ∀ x : Change, x.Kind = 0 → ∀ q, chg q x c.Key = setP q ⟨x.Key, x.Record⟩ false := fun x hx q => (chg0 hx).symm
  obtain ⟨hA1, hA2⟩ := hA
  -- after the erase
  have hE : ∃ A1, (er c old th a).foldl (fun q x => chg q x c.Key) A = A1 ∧ Srt A1 ∧ ∀ p, p ∈ A1 ↔ (p ∈ A ∧ ¬ (C1 a c old th = true ∧ p.key = (R26.key a old).1 ++ c.Key)) := by
    refine ⟨_, rfl, ?_⟩
    unfold er
    by_cases hc1 : C1 a c old th = true
    · rw [if_pos hc1, List.foldl_cons, List.foldl_nil, e1 _ rfl]
      have := set_erase hA1 ⟨(R26.key a old).1 ++ c.Key, []⟩
      exact ⟨this.1, fun p => by rw [this.2]; simp [hc1]⟩
    · rw [if_neg hc1]
      exact ⟨hA1, fun p => by simp [hc1]⟩
  obtain ⟨A1, hE1, hE2, hE3⟩ := hE
  rw [List.foldl_append, hE1]
  have hP : Srt ((pu c old th a).foldl (fun q x => chg q x c.Key) A1) ∧ ∀ p, p ∈ (pu c old th a).foldl (fun q x => chg q x c.Key) A1 ↔ ((p ∈ A1 ∧ ¬ (C2 a c old th = true ∧ p.key = (R26.key a c.Record).1 ++ c.Key)) ∨ (C2 a c old th = true ∧ p = ⟨(R26.key a c.Record).1 ++ c.Key, (R26.key a c.Record).1 ++ c.Key⟩)) := by
    unfold pu
    by_cases hc2 : C2 a c old th = true
    · rw [if_pos hc2, List.foldl_cons, List.foldl_nil, e0 _ rfl]
      have := set_put hE2 ⟨(R26.key a c.Record).1 ++ c.Key, (R26.key a c.Record).1 ++ c.Key⟩
      exact ⟨this.1, fun p => by rw [this.2]; simp [hc2]⟩
    · rw [if_neg hc2]
      exact ⟨hE2, fun p => by simp [hc2]⟩
  refine ⟨hP.1, fun p => ?_⟩
  rw [hP.2, hE3, hA2, want]
  have hcc1 : C1 a c old th = (had a old th && (!(has a c) || decide ((R26.key a old).1 ≠ (R26.key a c.Record).1))) := rfl
  have hcc2 : C2 a c old th = (has a c && (!(had a old th) || decide ((R26.key a old).1 ≠ (R26.key a c.Record).1))) := rfl
  cases hh : had a old th with
  | false =>
    have c1 : C1 a c old th = false := by rw [hcc1, hh]; rfl
    cases hs : has a c with
    | false =>
      have c2 : C2 a c old th = false := by rw [hcc2, hs]; rfl
      simp [c1, c2]
    | true =>
      have c2 : C2 a c old th = true := by rw [hcc2, hs, hh]; rfl
      simp only [c1, c2, Bool.false_eq_true, false_and, not_false_eq_true, and_true, true_and]
      constructor
      · rintro (⟨h1, h2⟩ | rfl)
        · exact ⟨h1.1, .inl h1.2⟩
        · exact ⟨rfl, .inr rfl⟩
      · rintro ⟨h1, h2⟩
        by_cases e : p.key = (R26.key a c.Record).1 ++ c.Key
        · refine .inr ?_
          cases p; simp only at e h1; rw [h1, e]
        · exact .inl ⟨⟨h1, h2.resolve_right e⟩, e⟩
  | true =>
    have hin := hadin hh
    cases hs : has a c with
    | false =>
      have c1 : C1 a c old th = true := by rw [hcc1, hh, hs]; rfl
      have c2 : C2 a c old th = false := by rw [hcc2, hs]; rfl
      simp only [c1, c2, Bool.false_eq_true, false_and, not_false_eq_true, and_true, true_and, or_false]
      exact and_assoc
    | true =>
      by_cases e : (R26.key a old).1 = (R26.key a c.Record).1
      · have c1 : C1 a c old th = false := by rw [hcc1, hh, hs, decide_eq_false (by simp [e])]; rfl
        have c2 : C2 a c old th = false := by rw [hcc2, hh, hs, decide_eq_false (by simp [e])]; rfl
        simp only [c1, c2, Bool.false_eq_true, false_and, not_false_eq_true, and_true, true_and, or_false]
        rw [e] at hin ⊢
        constructor
        · rintro ⟨h1, h2⟩
          by_cases e2 : p.key = (R26.key a c.Record).1 ++ c.Key
          · exact ⟨h1, .inr e2⟩
          · exact ⟨h1, .inl ⟨h2, e2⟩⟩
        · rintro ⟨h1, h2 | h2⟩
          · exact ⟨h1, h2.1⟩
          · exact ⟨h1, h2 ▸ hin⟩
      · have c1 : C1 a c old th = true := by rw [hcc1, hh, hs, decide_eq_true e]; rfl
        have c2 : C2 a c old th = true := by rw [hcc2, hh, hs, decide_eq_true e]; rfl
        simp only [c1, c2, true_and]
        constructor
        · rintro (⟨⟨⟨h1, h2⟩, h3⟩, h4⟩ | rfl)
          · exact ⟨h1, .inl ⟨h2, h3⟩⟩
          · exact ⟨rfl, .inr rfl⟩
        · rintro ⟨h1, h2⟩
          by_cases e2 : p.key = (R26.key a c.Record).1 ++ c.Key
          · refine .inr ?_
            cases p; simp only at e2 h1; rw [h1, e2]
          · have h3 := h2.resolve_right e2
            exact .inl ⟨⟨⟨h1, h3.1⟩, h3.2⟩, e2⟩
end
end R27
end Go.Proofs.Ytmbinhhlfbgiaaa
