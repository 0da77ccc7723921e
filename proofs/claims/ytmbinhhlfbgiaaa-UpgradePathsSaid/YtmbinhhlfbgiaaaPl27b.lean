/- Pl27b: a store after changes. -/
import Derived.Test.YtmbinhhlfbgiaaaPl27
import Derived.Test.YtmbinhhlfbgiaaaGvI
namespace Go.Proofs.Ytmbinhhlfbgiaaa
open Go.GV
namespace R27
def setStep (x : Pair) (st : List Pair × Bool) (p : Pair) : List Pair × Bool :=
  let s1 := if (!st.2 && !(Op.bytesLess p.key x.key)) = true then (st.1 ++ [x], true) else st
  (if p.key ≠ x.key then s1.1 ++ [p] else s1.1, s1.2)
def setGo (x : Pair) (e : Bool) (l : List Pair) : List Pair × Bool := l.foldl (setStep x) ([], e)
def setP (l : List Pair) (x : Pair) (e : Bool) : List Pair := if (setGo x e l).2 = true then (setGo x e l).1 else (setGo x e l).1 ++ [x]
def chg (l : List Pair) (c : Change) (key : Bytes) : List Pair :=
  if c.Kind = 0 then setP l ⟨c.Key, c.Record⟩ false else if c.Kind = 1 then setP l ⟨c.Key, []⟩ true else if c.Kind = 2 then setP l ⟨key, c.Record⟩ false else if c.Kind = 3 then [] else l
section
variable {x : Pair} {e : Bool} {l o : List Pair} {d : Bool} {k : Nat}
theorem set_step (hk : k < l.length) : setGo x e (l.take (k + 1)) = setStep x (setGo x e (l.take k)) (l.getD k default) := R02.fold_take _ _ l default k hk
theorem set_in_in (hk : k < l.length) (h : (o, d) = setGo x e (l.take k)) (h1 : (!d && !(Op.bytesLess (l.getD k default).key x.key)) = true) (h2 : (l.getD k default).key ≠ x.key) : ((o ++ [x]) ++ [l.getD k default], true) = setGo x e (l.take (k + 1)) := by
  rw [set_step hk, ← h]; unfold setStep; simp only [h1, if_true]; rw [if_pos h2]
theorem set_in_no (hk : k < l.length) (h : (o, d) = setGo x e (l.take k)) (h1 : (!d && !(Op.bytesLess (l.getD k default).key x.key)) = true) (h2 : ¬ (l.getD k default).key ≠ x.key) : (o ++ [x], true) = setGo x e (l.take (k + 1)) := by
  rw [set_step hk, ← h]; unfold setStep; simp only [h1, if_true]; rw [if_neg h2]
theorem set_no_in (hk : k < l.length) (h : (o, d) = setGo x e (l.take k)) (h1 : (!d && !(Op.bytesLess (l.getD k default).key x.key)) = false) (h2 : (l.getD k default).key ≠ x.key) : (o ++ [l.getD k default], d) = setGo x e (l.take (k + 1)) := by
  rw [set_step hk, ← h]; unfold setStep; simp only [h1, Bool.false_eq_true, if_false]; rw [if_pos h2]
theorem set_no_no (hk : k < l.length) (h : (o, d) = setGo x e (l.take k)) (h1 : (!d && !(Op.bytesLess (l.getD k default).key x.key)) = false) (h2 : ¬ (l.getD k default).key ≠ x.key) : (o, d) = setGo x e (l.take (k + 1)) := by
  rw [set_step hk, ← h]; unfold setStep; simp only [h1, Bool.false_eq_true, if_false]; rw [if_neg h2]
theorem set_done (hk : l.length ≤ k) (h : (o, d) = setGo x e (l.take k)) (h1 : (!d) = false) : o = setP l x e := by
  rw [List.take_of_length_le hk] at h
  unfold setP; rw [← h]; rw [if_pos (not_f h1)]
theorem set_last (hk : l.length ≤ k) (h : (o, d) = setGo x e (l.take k)) (h1 : (!d) = true) : o ++ [x] = setP l x e := by
  rw [List.take_of_length_le hk] at h
  unfold setP; rw [← h]; rw [if_neg (by rw [not_t h1]; simp)]
theorem setGo_len (x : Pair) (l : List Pair) : ∀ (o : List Pair) (d : Bool), (l.foldl (setStep x) (o, d)).1.length + (if (l.foldl (setStep x) (o, d)).2 = true then 0 else 1) ≤ o.length + l.length + (if d = true then 0 else 1) := by
  induction l with
  | nil => intro o d; exact Nat.le_refl _
  | cons p l ih =>
    intro o d
    rw [List.foldl_cons]
    generalize hs : setStep x (o, d) p = s
    obtain ⟨o2, d2⟩ := s
    refine Nat.le_trans (ih o2 d2) ?_
    unfold setStep at hs
    generalize Op.bytesLess p.key x.key = bb at hs
    cases bb <;> cases d <;> by_cases hk : p.key = x.key <;> simp [hk] at hs <;> obtain ⟨rfl, rfl⟩ := hs <;> simp <;> omega
theorem setP_len (l : List Pair) (x : Pair) (e : Bool) : (setP l x e).length ≤ l.length + 1 := by
  have := setGo_len x l [] e
  unfold setP
  change (setGo x e l).1.length + (if (setGo x e l).2 = true then 0 else 1) ≤ _ at this
  cases h : (setGo x e l).2 <;> rw [h] at this <;> cases e <;> simp at this <;> simp <;> omega
theorem chg_len (l : List Pair) (c : Change) (key : Bytes) : (chg l c key).length ≤ l.length + 1 := by
  unfold chg
  split
  · exact setP_len _ _ _
  · split
    · exact setP_len _ _ _
    · split
      · exact setP_len _ _ _
      · split <;> simp
theorem setGo_mem (x : Pair) (p : Pair) : ∀ (l o : List Pair) (d : Bool), p ∈ (l.foldl (setStep x) (o, d)).1 → p ∈ o ∨ p ∈ l ∨ p = x
  | [], o, d, h => .inl h
  | q :: l, o, d, h => by
    rw [List.foldl_cons] at h
    generalize hs : setStep x (o, d) q = s at h
    obtain ⟨o2, d2⟩ := s
    rcases setGo_mem x p l o2 d2 h with h1 | h1 | h1
    · unfold setStep at hs
      have hq : p ∈ o ∨ p = q ∨ p = x := by
        have e := congrArg Prod.fst hs
        simp only at e
        rw [← e] at h1
        split at h1
        · rcases List.mem_append.1 h1 with h1 | h1
          · split at h1
            · rcases List.mem_append.1 h1 with h1 | h1
              · exact .inl h1
              · exact .inr (.inr (by simpa using h1))
            · exact .inl h1
          · exact .inr (.inl (by simpa using h1))
        · split at h1
          · rcases List.mem_append.1 h1 with h1 | h1
            · exact .inl h1
            · exact .inr (.inr (by simpa using h1))
          · exact .inl h1
      rcases hq with h2 | h2 | h2
      · exact .inl h2
      · exact .inr (.inl (by simp [h2]))
      · exact .inr (.inr h2)
    · exact .inr (.inl (by simp [h1]))
    · exact .inr (.inr h1)
theorem setP_mem0 {p : Pair} (h : p ∈ setP l x e) : p ∈ l ∨ p = x := by
  unfold setP at h
  have : p ∈ (setGo x e l).1 ∨ p = x := by
    split at h
    · exact .inl h
    · rcases List.mem_append.1 h with h | h
      · exact .inl h
      · exact .inr (by simpa using h)
  rcases this with h | h
  · rcases setGo_mem x p l [] e h with h1 | h1 | h1
    · cases h1
    · exact .inl h1
    · exact .inr h1
  · exact .inr h
end
theorem nin {d b : Bool} (h : d = false) (h2 : b = false) : (!d && !b) = true := by rw [h, h2]; rfl
theorem nout1 {d b : Bool} (h : d = true) : (!d && !b) = false := by rw [h]; rfl
theorem nout2 {d b : Bool} (h : b = true) : (!d && !b) = false := by rw [h]; cases d <;> rfl
theorem chg0 {l : List Pair} {c : Change} {key : Bytes} (h : c.Kind = 0) : setP l (Pair.mk c.Key c.Record) false = chg l c key := (if_pos h).symm
theorem chg1 {l : List Pair} {c : Change} {key : Bytes} (h : c.Kind = 1) : setP l (Pair.mk c.Key []) true = chg l c key := by unfold chg; rw [if_neg (by omega), if_pos h]
theorem chg2 {l : List Pair} {c : Change} {key : Bytes} (h : c.Kind = 2) : setP l (Pair.mk key c.Record) false = chg l c key := by unfold chg; rw [if_neg (by omega), if_neg (by omega), if_pos h]
theorem chg3 {l : List Pair} {c : Change} {key : Bytes} (h : c.Kind = 3) : ([] : List Pair) = chg l c key := by unfold chg; rw [if_neg (by omega), if_neg (by omega), if_neg (by omega), if_pos h]
def isAt (ds : List Data) (id : Int) : Bool := ds.any fun x => decide (x.Id = id)
def repl (id : Int) (v : List Pair) (A : Option Addr) (C : Nat) : List Data → List Data
  | [] => []
  | x :: l => if x.Id = id then ⟨x.Id, v, A, C⟩ :: l else x :: repl id v A C l
def doD (ds : List Data) (c : Change) (key : Bytes) (A : Option Addr) (C : Nat) : List Data :=
  if isAt ds c.Id = true then repl c.Id (chg (ofP ds c.Id) c key) A C ds else ds ++ [⟨c.Id, chg [] c key, A, C⟩]
section
variable {ds : List Data} {c : Change} {key : Bytes} {A : Option Addr} {C k : Nat} {id : Int} {v : List Pair} {x : Data}
theorem isAt_append (ds : List Data) (x : Data) (id : Int) : isAt (ds ++ [x]) id = (isAt ds id || decide (x.Id = id)) := by unfold isAt; simp
theorem repl_none : ∀ {ds : List Data}, isAt ds id = false → repl id v A C ds = ds
  | [], _ => rfl
  | x :: l, h => by
    unfold isAt at h
    rw [List.any_cons, Bool.or_eq_false_iff] at h
    unfold repl
    rw [if_neg (of_decide_eq_false h.1), repl_none (ds := l) h.2]
theorem repl_snoc : ∀ (ds : List Data), isAt ds id = true → repl id v A C (ds ++ [x]) = repl id v A C ds ++ [x]
  | [], h => by cases h
  | y :: l, h => by
    show repl id v A C (y :: (l ++ [x])) = _
    unfold repl
    by_cases hy : y.Id = id
    · rw [if_pos hy, if_pos hy]; rfl
    · rw [if_neg hy, if_neg hy, repl_snoc l (by unfold isAt at h ⊢; rw [List.any_cons, decide_eq_false hy] at h; simpa using h)]; rfl
theorem repl_hit : ∀ (ds : List Data), isAt ds id = false → x.Id = id → repl id v A C (ds ++ [x]) = ds ++ [⟨x.Id, v, A, C⟩]
  | [], _, hx => by show repl id v A C [x] = _; unfold repl; rw [if_pos hx]; rfl
  | y :: l, h, hx => by
    unfold isAt at h
    rw [List.any_cons, Bool.or_eq_false_iff] at h
    show repl id v A C (y :: (l ++ [x])) = _
    unfold repl
    rw [if_neg (of_decide_eq_false h.1), repl_hit l h.2 hx]; rfl
theorem repl_len (id : Int) (v : List Pair) (A : Option Addr) (C : Nat) : ∀ ds : List Data, (repl id v A C ds).length = ds.length
  | [] => rfl
  | y :: l => by
    unfold repl
    split
    · rfl
    · rw [List.length_cons, repl_len id v A C l, List.length_cons]
theorem doD_len (ds : List Data) (c : Change) (key : Bytes) (A : Option Addr) (C : Nat) : (doD ds c key A C).length ≤ ds.length + 1 := by
  unfold doD
  split
  · rw [repl_len]; omega
  · simp
theorem ofD_app (ds : List Data) (x : Data) (id : Int) : ofD (ds ++ [x]) id = if isAt ds id = true then ofD ds id else if x.Id = id then x else default := by
  unfold ofD isAt
  rw [List.find?_append]
  cases h : ds.find? fun y => decide (y.Id = id) with
  | some y =>
    have hy := List.find?_some h
    have hm := List.mem_of_find?_eq_some h
    rw [if_pos (List.any_eq_true.2 ⟨y, hm, hy⟩)]; rfl
  | none =>
    have hn : (ds.any fun y => decide (y.Id = id)) = false := by
      rw [List.any_eq_false]; intro y hy; have := List.find?_eq_none.1 h y hy; exact this
    rw [hn]
    by_cases hx : x.Id = id
    · simp [hx]
    · simp [hx]
theorem ofD_repl (id : Int) (v : List Pair) (A : Option Addr) (C : Nat) (id2 : Int) : ∀ (ds : List Data), ofP (repl id v A C ds) id2 = if id2 = id ∧ isAt ds id = true then v else ofP ds id2
  | [] => by unfold repl isAt; simp
  | y :: l => by
    have ih := ofD_repl id v A C id2 l
    unfold ofP ofD at ih ⊢
    unfold repl
    by_cases hy : y.Id = id
    · rw [if_pos hy]
      by_cases h2 : id2 = id
      · subst h2
        rw [if_pos ⟨rfl, by unfold isAt; simp [hy]⟩]
        simp [hy]
      · rw [if_neg (fun h => h2 h.1)]
        have : ¬ y.Id = id2 := fun h => h2 (h ▸ hy)
        simp [this]
    · rw [if_neg hy]
      by_cases hy2 : y.Id = id2
      · have : ¬ id2 = id := fun h => hy (hy2.trans h)
        rw [if_neg (fun h => this h.1)]
        simp [hy2]
      · rw [List.find?_cons, decide_eq_false hy2]
        simp only [List.find?_cons, decide_eq_false hy2]
        rw [ih]
        have : isAt (y :: l) id = isAt l id := by unfold isAt; simp [hy]
        rw [this]
theorem ofP_none {ds : List Data} (h : isAt ds id = false) : ofP ds id = [] := by
  unfold ofP ofD
  have : ds.find? (fun y => decide (y.Id = id)) = none := by
    rw [List.find?_eq_none]; intro y hy; have := List.any_eq_false.1 h y hy; simpa using this
  rw [this]; rfl
theorem ofP_doD (ds : List Data) (c : Change) (key : Bytes) (A : Option Addr) (C : Nat) (id : Int) : ofP (doD ds c key A C) id = if id = c.Id then chg (ofP ds id) c key else ofP ds id := by
  unfold doD
  by_cases h : isAt ds c.Id = true
  · rw [if_pos h, ofD_repl]
    by_cases hi : id = c.Id
    · subst hi; rw [if_pos ⟨rfl, h⟩, if_pos rfl]
    · rw [if_neg (fun h => hi h.1), if_neg hi]
  · rw [if_neg h]
    rw [Bool.not_eq_true] at h
    unfold ofP
    rw [ofD_app]
    by_cases hi : id = c.Id
    · subst hi
      have hn := ofP_none h
      unfold ofP at hn
      rw [h, if_neg (by simp), if_pos rfl, if_pos rfl, hn]
    · rw [if_neg hi]
      by_cases h2 : isAt ds id = true
      · rw [if_pos h2]
      · rw [if_neg h2, if_neg (fun h => hi h.symm)]
        rw [Bool.not_eq_true] at h2
        exact (ofP_none h2).symm
theorem repl_ro {S : List Nat} {w : World} (h2 : RO S w A (v.flatMap Pair.enc)) : ∀ {ds : List Data}, (∀ i : Nat, RO S w (ds.getD i default).PairsA ((ds.getD i default).Pairs.flatMap Pair.enc)) → ∀ i : Nat, RO S w ((repl id v A C ds).getD i default).PairsA (((repl id v A C ds).getD i default).Pairs.flatMap Pair.enc)
  | [], h => h
  | y :: l, h => by
    have h1 := h 0
    have h3 : ∀ i : Nat, RO S w (l.getD i default).PairsA ((l.getD i default).Pairs.flatMap Pair.enc) := fun i => h (i + 1)
    unfold repl
    split
    · exact ron_cons (a := (⟨y.Id, v, A, C⟩ : Data)) h2 h3
    · exact ron_cons (a := y) h1 (repl_ro h2 h3)
theorem app_ro {S : List Nat} {w : World} (h2 : RO S w x.PairsA (x.Pairs.flatMap Pair.enc)) : ∀ {ds : List Data}, (∀ i : Nat, RO S w (ds.getD i default).PairsA ((ds.getD i default).Pairs.flatMap Pair.enc)) → ∀ i : Nat, RO S w ((ds ++ [x]).getD i default).PairsA (((ds ++ [x]).getD i default).Pairs.flatMap Pair.enc)
  | [], h => ron_cons h2 h
  | y :: l, h => ron_cons (a := y) (h 0) (app_ro h2 (ds := l) fun i => h (i + 1))
theorem doD_ro {S : List Nat} {w : World} (h : ∀ i : Nat, RO S w (ds.getD i default).PairsA ((ds.getD i default).Pairs.flatMap Pair.enc)) (h2 : RO S w A ((chg (ofP ds c.Id) c key).flatMap Pair.enc)) : ∀ i : Nat, RO S w ((doD ds c key A C).getD i default).PairsA (((doD ds c key A C).getD i default).Pairs.flatMap Pair.enc) := by
  unfold doD
  by_cases hh : isAt ds c.Id = true
  · rw [if_pos hh]; exact repl_ro h2 h
  · rw [if_neg hh]
    rw [Bool.not_eq_true] at hh
    rw [ofP_none hh] at h2
    exact app_ro (x := ⟨c.Id, chg [] c key, A, C⟩) h2 h
def DoAt (ds : List Data) (c : Change) (key : Bytes) (k : Nat) (out : List Data) (found : Bool) (ps : List Pair) (A : Option Addr) (C : Nat) : Prop :=
  found = isAt (ds.take k) c.Id ∧ (found = false → ps = []) ∧ (found = true → ps = chg (ofP ds c.Id) c key) ∧ out = repl c.Id (chg (ofP ds c.Id) c key) A C (ds.take k)
theorem ofP_first (hk : k < ds.length) (h : isAt (ds.take k) id = false) (h2 : (ds.getD k default).Id = id) : ofP ds id = (ds.getD k default).Pairs := by
  unfold ofP
  rw [ofD_hit hk (fun i hi e => ?_) h2]
  have := List.any_eq_false.1 h (ds.getD i default) (by
    rw [List.getD_eq_getElem?_getD, List.getElem?_eq_getElem (by omega)]
    exact List.mem_of_getElem? (i := i) (by rw [List.getElem?_take, if_pos hi, List.getElem?_eq_getElem (by omega)]; rfl))
  rw [e, decide_eq_true rfl] at this; exact this rfl
theorem take_at (hk : k < ds.length) : ds.take (k + 1) = ds.take k ++ [ds.getD k default] := by
  rw [List.take_succ_eq_append_getElem hk, List.getD_eq_getElem?_getD, List.getElem?_eq_getElem hk]; rfl
theorem do_start : DoAt ds c key 0 [] false [] A C := ⟨rfl, fun _ => rfl, fun h => (by cases h), rfl⟩
variable {out : List Data} {ps : List Pair} {found : Bool}
theorem do_hit {A0 : Option Addr} {C0 : Nat} {ps2 : List Pair} (hk : k < ds.length) (h : DoAt ds c key k out found ps A0 C0) (h1a : (ds.getD k default).Id = c.Id) (h1b : found = false) (hp : ps2 = chg (ds.getD k default).Pairs c key) : DoAt ds c key (k + 1) (out ++ [⟨(ds.getD k default).Id, ps2, A, C⟩]) true ps2 A C := by
  obtain ⟨e1, e2, e3, e4⟩ := h
  have h1 := And.intro h1a h1b
  have hn : isAt (ds.take k) c.Id = false := by rw [← e1]; exact h1.2
  have hf := ofP_first hk hn h1.1
  refine ⟨?_, fun h => (by cases h), fun _ => by rw [hp, hf], ?_⟩
  · rw [take_at hk, isAt_append, decide_eq_true h1.1, Bool.or_true]
  · rw [take_at hk, repl_hit _ hn h1.1, e4, repl_none hn, hf, hp]
theorem do_on (hk : k < ds.length) (h : DoAt ds c key k out found ps A C) (h1 : ¬ (ds.getD k default).Id = c.Id ∨ found = true) : DoAt ds c key (k + 1) (out ++ [ds.getD k default]) found ps A C := by
  obtain ⟨e1, e2, e3, e4⟩ := h
  cases hf : found with
  | true =>
    rw [hf] at e1
    refine ⟨?_, fun h => (by cases h), fun _ => e3 hf, ?_⟩
    · rw [take_at hk, isAt_append, ← e1]; rfl
    · rw [take_at hk, repl_snoc _ e1.symm, e4]
  | false =>
    rw [hf] at e1 h1
    have hne : ¬ (ds.getD k default).Id = c.Id := h1.resolve_right (by simp)
    have hn : isAt (ds.take (k + 1)) c.Id = false := by rw [take_at hk, isAt_append, ← e1, decide_eq_false hne]; rfl
    refine ⟨hn.symm, fun _ => e2 hf, fun h => (by cases h), ?_⟩
    rw [repl_none hn, e4, repl_none e1.symm, take_at hk]
theorem do_new {A0 : Option Addr} {C0 : Nat} (hk : ds.length ≤ k) (h : DoAt ds c key k out found ps A0 C0) (h1 : found = false) : out ++ [⟨c.Id, chg [] c key, A, C⟩] = doD ds c key A C := by
  obtain ⟨e1, e2, e3, e4⟩ := h
  rw [List.take_of_length_le hk] at e1 e4
  rw [h1] at e1
  unfold doD
  rw [if_neg (by rw [← e1]; simp), e4, repl_none e1.symm]
theorem do_old (hk : ds.length ≤ k) (h : DoAt ds c key k out found ps A C) (h1 : found = true) : out = doD ds c key A C ∧ ps = chg (ofP ds c.Id) c key := by
  obtain ⟨e1, e2, e3, e4⟩ := h
  rw [List.take_of_length_le hk] at e1 e4
  have hf := h1
  rw [hf] at e1
  refine ⟨?_, e3 hf⟩
  unfold doD
  rw [if_pos e1.symm, e4]
theorem do_newP (hk : ds.length ≤ k) {A0 : Option Addr} {C0 : Nat} (h : DoAt ds c key k out found ps A0 C0) (h1 : found = false) : chg [] c key = chg (ofP ds c.Id) c key := by
  obtain ⟨e1, e2, e3, e4⟩ := h
  rw [List.take_of_length_le hk] at e1
  rw [h1] at e1
  rw [ofP_none e1.symm]
end
end R27
end Go.Proofs.Ytmbinhhlfbgiaaa
