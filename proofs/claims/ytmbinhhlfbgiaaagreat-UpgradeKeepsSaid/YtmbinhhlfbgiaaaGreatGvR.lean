/- GvR: a range over a map that the loop does not write; how long a map is. -/
import Derived.Test.YtmbinhhlfbgiaaaGreatUpgradeKeeps4
import Derived.Laws.IdiomRangeMap
namespace Go.GV
open Go.RowKit Go.MapKept
def Ent.mx (b : Nat) (es : Array MapEntry) (clock : Nat) : Ent := ⟨some b, fun o => o = some (.map es clock)⟩
def Ent.rng {κ : Type} (f : κ → Value) (b bm : Nat) (es : Array MapEntry) (clock : Nat) (left : List (κ × Value)) (cur : Option (κ × Value)) : Ent :=
  ⟨some b, fun o => ∃ seen, o = some (.mapIter (some bm) clock seen clock) ∧ (leftOf es seen).toList.map (fun e => (e.key, e.val)) = left.map (fun p => (f p.1, p.2)) ∧ ∀ p, cur = some p → ∃ e ∈ es.toList, seen.back? = some e.born ∧ e.key = f p.1 ∧ e.val = p.2⟩
def Holds' {κ : Type} (f : κ → Value) (es : Array MapEntry) (l : List (κ × Value)) : Prop := es.toList.map (fun e => (e.key, e.val)) = l.map (fun p => (f p.1, p.2))
section
variable {E : Env} {P : Program} {x : Operand} {dst : Option Nat} {t ty : TypeId} {pos : String} {af : Array Edge} {g : Option (Nat × Bool)} {κ : Type}
theorem leftOf_none (es : Array MapEntry) : leftOf es #[] = es := by
  unfold leftOf
  exact Array.filter_eq_self.2 (fun _ _ => by simp)
theorem St.mp_mx {S : List Nat} {w0 w : World} {L : List Ent} (j : Nat) {f : κ → Value} {b : Nat} {l : List (κ × Value)} (hS : St S w0 w L) (hj : L[j]? = some (Ent.mp f b l)) : ∃ es clock, Holds' f es l ∧ Born es clock ∧ w.heap[b]? = some (.map es clock) ∧ St S w0 w (L.set j (Ent.mx b es clock)) := by
  obtain ⟨es, clock, h1, h2, h3⟩ := mp_at (hS.mem hj)
  refine ⟨es, clock, h2, h3, h1, ?_⟩
  have hjl : j < L.length := (List.getElem?_eq_some_iff.1 hj).1
  have hje : L[j] = Ent.mp f b l := (List.getElem?_eq_some_iff.1 hj).2
  refine hS.writeAt hj b rfl rfl ⟨rfl, rfl, rfl, Nat.le_refl _, fun _ _ _ => rfl⟩ ?_
  show w.heap[b]? = _
  exact h1
theorem O_range {S : List Nat} {w0 : World} {L : List Ent} {K : Value → List Ent → Prop} (j : Nat) {f : κ → Value} {b : Nat} {l : List (κ × Value)} {kt et : TypeId} (hx : ev E x = .map (some b)) (hj : L[j]? = some (Ent.mp f b l)) (ht : P.underlying t = some (.map kt et))
    (k : ∀ es clock it, Holds' f es l → Born es clock → K (.pointer (some ⟨it, 0, none⟩)) (Ent.rng f it b es clock l none :: L.set j (Ent.mx b es clock))) : OpJ P S w0 E L ⟨dst, .range t x, ty, pos, af, g⟩ K := by
  intro w hS
  obtain ⟨es, clock, h1, h2, h3, h4⟩ := hS.mp_mx j hj
  refine ⟨_, _, _, .inl ?_, h4.alloc (.mapIter (some b) clock #[] clock) (Ent.rng f w.heap.size b es clock l none) rfl ⟨#[], rfl, by rw [leftOf_none]; exact h1, fun p hp => by cases hp⟩, k es clock w.heap.size h1 h2⟩
  simp only [execOp, hx]
  show Sem.run P (do let v ← Instr.range t (.map (some b)); pure (Next.value v)) w = _
  rw [Sem.run_bind, run_range_map w t kt et b es clock ht h3]; rfl
theorem run_next_at (w : World) (ty : TypeId) (it bm clock : Nat) (seen : Array Nat) (es : Array MapEntry) (hi : w.heap[it]? = some (.mapIter (some bm) clock seen clock)) (hb : w.heap[bm]? = some (.map es clock)) (hB : Born es clock) :
    ((leftOf es seen).size = 0 ∧ (Instr.next (.pointer (some ⟨it, 0, none⟩)) false ty).run P w = .ok (.tuple #[.bool false]) w) ∨
    ∃ j, ∃ h : j < (leftOf es seen).size, ∃ w1 : World, (w1.heap = w.heap ∧ w1.os = w.os ∧ w1.output = w.output ∧ w1.tape = w.tape) ∧ (Instr.next (.pointer (some ⟨it, 0, none⟩)) false ty).run P w = .ok (.tuple #[.bool true, ((leftOf es seen)[j]).key, ((leftOf es seen)[j]).val]) { w1 with heap := w1.heap.setIfInBounds it (.mapIter (some bm) clock (seen.push ((leftOf es seen)[j]).born) clock) } := by
  simp only [Instr.next, getObj, Sem.run_bind, Sem.run, hi, hb, Result.andThen, next_test_false seen es clock clock hB.2 (Nat.le_refl _), Bool.false_eq_true, if_false]
  unfold leftOf
  have hmem : ∀ x ∈ (Array.filter (fun e => !seen.contains e.born) es).toList, x.born < clock := fun x hx => hB.2 x (by simp at hx ⊢; exact hx.1)
  generalize Array.filter (fun e => !seen.contains e.born) es = L at hmem ⊢
  have e1 : L.filter (fun x => decide (x.born < clock)) = L := Array.filter_eq_self.2 (fun x hx => by simpa using hmem x (by simpa using hx))
  have e2 : L.filter (fun x => decide (x.born ≥ clock)) = #[] := by
    rw [Array.filter_eq_empty_iff]
    intro x hx
    have := hmem x (by simpa using hx)
    simp
    omega
  simp only [e1, e2, Array.append_empty]
  by_cases h0 : L.size = 0
  · left
    have : L = #[] := Array.eq_empty_of_size_eq_zero h0
    subst this
    refine ⟨rfl, ?_⟩
    simp [choose, Sem.run, Question.forced]
  · right
    have hne : L.isEmpty = false := by simp [Array.isEmpty, h0]
    simp only [hne, Bool.false_eq_true, if_false, Array.empty_append, Array.size_map]
    have hch : ∃ (j : Nat) (w1 : World), j < L.size ∧ (w1.heap = w.heap ∧ w1.os = w.os ∧ w1.output = w.output ∧ w1.tape = w.tape) ∧ (choose (Question.mapNext L.size)).run P w = .ok j w1 := by
      by_cases hf : L.size ≤ 1
      · exact ⟨0, w, by omega, ⟨rfl, rfl, rfl, rfl⟩, by simp [choose, Sem.run, Question.forced, hf]⟩
      · exact ⟨_, w.drew, Nat.mod_lt _ (by omega), ⟨rfl, rfl, rfl, rfl⟩, by
          simp only [choose, Sem.run, Question.forced, decide_eq_true_eq, hf, if_false, Question.cut]
          rfl⟩
    obtain ⟨j, w1, hj, hal, hrun⟩ := hch
    refine ⟨j, hj, w1, hal, ?_⟩
    have hi' : w1.heap[it]? = some (.mapIter (some bm) clock seen clock) := by rw [hal.1]; exact hi
    have hset : ∀ (o' : Obj), (setObj it o').run P w1 = .ok () { w1 with heap := w1.heap.setIfInBounds it o' } := fun o' => by
      simp only [setObj, Sem.run, hi']
    simp only [hrun, Array.getElem?_map, Array.getElem?_eq_getElem hj, Option.map_some, Sem.run_bind, hset, Result.andThen]
    rfl
theorem filter_erase : ∀ (l : List MapEntry) (j : Nat) (hj : j < l.length), (l.map (·.born)).Nodup → l.filter (fun e => !(e.born == l[j].born)) = l.eraseIdx j
  | x :: l, 0, _, hn => by
    rw [List.map_cons, List.nodup_cons] at hn
    rw [List.eraseIdx_cons_zero, List.filter_cons]
    simp only [List.getElem_cons_zero, beq_self_eq_true, Bool.not_true, Bool.false_eq_true, if_false]
    rw [List.filter_eq_self]
    intro a ha
    rw [Bool.not_eq_true', beq_eq_false_iff_ne]
    intro e
    exact hn.1 (List.mem_map.2 ⟨a, ha, e⟩)
  | x :: l, j + 1, hj, hn => by
    rw [List.map_cons, List.nodup_cons] at hn
    rw [List.eraseIdx_cons_succ, List.filter_cons]
    have hj' : j < l.length := by simpa using hj
    simp only [List.getElem_cons_succ]
    have : (x.born == l[j].born) = false := by
      rw [beq_eq_false_iff_ne]
      intro e
      exact hn.1 (List.mem_map.2 ⟨l[j], List.getElem_mem _, e.symm⟩)
    rw [this]
    simp only [Bool.not_false, if_true]
    rw [filter_erase l j hj' hn.2]
theorem leftOf_push (es : Array MapEntry) (clock : Nat) (hB : Born es clock) (seen : Array Nat) (j : Nat) (h : j < (leftOf es seen).size) : (leftOf es (seen.push (leftOf es seen)[j].born)).toList = (leftOf es seen).toList.eraseIdx j := by
  have hn : ((leftOf es seen).toList.map (·.born)).Nodup := by
    unfold leftOf
    rw [Array.toList_filter]
    exact List.Nodup.sublist (List.Sublist.map _ List.filter_sublist) hB.1
  rw [← filter_erase _ j (by simpa using h) hn]
  simp only [Array.getElem_toList]
  generalize (leftOf es seen)[j].born = b
  unfold leftOf
  rw [Array.toList_filter, Array.toList_filter, List.filter_filter]
  congr 1
  funext e
  simp only [Array.contains_push, Bool.not_or]
  cases seen.contains e.born <;> cases (e.born == b) <;> rfl
theorem map_eraseIdx {α β : Type} (f : α → β) : ∀ (l : List α) (n : Nat), (l.eraseIdx n).map f = (l.map f).eraseIdx n
  | [], n => by simp
  | _ :: _, 0 => rfl
  | x :: l, n + 1 => by simp only [List.eraseIdx_cons_succ, List.map_cons, map_eraseIdx f l n]
theorem O_next {α : Type} {S : List Nat} {w0 : World} {L : List Ent} {K : Value → List Ent → Prop} (j i : Nat) {f : κ → Value} (mc : α → κ × Value) {it bm clock : Nat} {es : Array MapEntry} {left : List α} {cur : Option (κ × Value)} (hx : ev E x = .pointer (some ⟨it, 0, none⟩)) (hj : L[j]? = some (Ent.rng f it bm es clock (left.map mc) cur)) (hi : L[i]? = some (Ent.mx bm es clock)) (hB : Born es clock)
    (h0 : left = [] → K (.tuple #[vB false]) L) (h1 : ∀ a n, left[n]? = some a → K (.tuple #[vB true, f (mc a).1, (mc a).2]) (L.set j (Ent.rng f it bm es clock ((left.eraseIdx n).map mc) (some (mc a))))) : OpJ P S w0 E L ⟨dst, .next x false, ty, pos, af, g⟩ K := by
  intro w hS
  have hat := hS.mem hj
  obtain ⟨seen, q1, q2, q3⟩ : (Ent.rng f it bm es clock (left.map mc) cur).prop w.heap[it]? := by simpa [Ent.at, Ent.rng] using hat.1
  have hm : w.heap[bm]? = some (.map es clock) := by
    have := (hS.mem hi).1
    simpa [Ent.at, Ent.mx] using this
  rcases run_next_at (P := P) w ty it bm clock seen es q1 hm hB with ⟨r1, r2⟩ | ⟨n, hn, w1, hal, r2⟩
  · refine ⟨_, _, w, .inl ?_, hS, h0 ?_⟩
    · simp only [execOp, hx]
      show Sem.run P (do let v ← Instr.next _ false ty; pure (Next.value v)) w = _
      rw [Sem.run_bind, r2]; rfl
    · have h2 := congrArg List.length q2
      simp only [List.length_map, Array.length_toList] at h2
      exact List.length_eq_zero_iff.1 (by omega)
  · have hl : n < left.length := by
      have h2 := congrArg List.length q2
      simp only [List.length_map, Array.length_toList] at h2
      omega
    have hp : ((leftOf es seen)[n].key, (leftOf es seen)[n].val) = (f (mc left[n]).1, (mc left[n]).2) := by
      have h2 : ((leftOf es seen).toList.map (fun e => (e.key, e.val)))[n]? = ((left.map mc).map (fun p => (f p.1, p.2)))[n]? := by rw [q2]
      simpa [List.getElem?_eq_getElem, hn, hl] using h2
    simp only [Prod.mk.injEq] at hp
    refine ⟨.tuple #[vB true, f (mc left[n]).1, (mc left[n]).2], L.set j (Ent.rng f it bm es clock ((left.eraseIdx n).map mc) (some (mc left[n]))), { w1 with heap := w1.heap.setIfInBounds it (.mapIter (some bm) clock (seen.push (leftOf es seen)[n].born) clock) }, .inl ?_, ?_, h1 left[n] n (List.getElem?_eq_getElem hl)⟩
    · simp only [execOp, hx]
      show Sem.run P (do let v ← Instr.next _ false ty; pure (Next.value v)) w = _
      rw [Sem.run_bind, r2, hp.1, hp.2]; rfl
    · refine hS.writeAt (w' := { w1 with heap := w1.heap.setIfInBounds it (.mapIter (some bm) clock (seen.push (leftOf es seen)[n].born) clock) }) hj it rfl rfl ?_ ?_
      · obtain ⟨a1, a2, a3, a4⟩ := hal
        refine ⟨a2, a4, a3, by simp [a1], fun k hk hkn => ?_⟩
        have hkn' : it ≠ k := fun e => hkn (by simp [e])
        simp [a1, hkn']
      · refine ⟨seen.push (leftOf es seen)[n].born, ?_, ?_, ?_⟩
        · have : it < w1.heap.size := by
            rw [hal.1]; exact (Array.getElem?_eq_some_iff.1 q1).1
          simp [this]
        · rw [leftOf_push es clock hB seen n hn, map_eraseIdx, q2, ← map_eraseIdx, ← map_eraseIdx]
        · intro p hp2
          cases hp2
          refine ⟨(leftOf es seen)[n], ?_, by simp, hp.1, hp.2⟩
          have : (leftOf es seen)[n] ∈ (leftOf es seen).toList := by simp
          unfold leftOf at this ⊢
          rw [Array.toList_filter] at this
          exact (List.mem_filter.1 this).1
theorem O_entry {S : List Nat} {w0 : World} {L : List Ent} (j i : Nat) {f : κ → Value} {it bm clock : Nat} {es : Array MapEntry} {left : List (κ × Value)} {p : κ × Value} (hx : ev E x = .pointer (some ⟨it, 0, none⟩)) (hj : L[j]? = some (Ent.rng f it bm es clock left (some p))) (hi : L[i]? = some (Ent.mx bm es clock)) (hB : Born es clock) :
    ∀ w, St S w0 w L → (execOp (ev E) ⟨dst, .entry x, ty, pos, af, g⟩).run P w = .ok (.value (.tuple #[f p.1, p.2])) w := by
  intro w hS
  have hat := hS.mem hj
  obtain ⟨seen, q1, q2, q3⟩ : (Ent.rng f it bm es clock left (some p)).prop w.heap[it]? := by simpa [Ent.at, Ent.rng] using hat.1
  have hm : w.heap[bm]? = some (.map es clock) := by
    have := (hS.mem hi).1
    simpa [Ent.at, Ent.mx] using this
  obtain ⟨e, he, h1, h2, h3⟩ := q3 p rfl
  have hf : es.find? (·.born == e.born) = some e := by rw [← Array.find?_toList]; exact find_born e es.toList hB.1 he
  have hr : (Instr.entry (.pointer (some ⟨it, 0, none⟩))).run P w = .ok (.tuple #[f p.1, p.2]) w := by
    simp only [Instr.entry, getObj, Sem.run_bind, Sem.run, q1, hm, Result.andThen, h1, bne_self_eq_false, Bool.false_eq_true, if_false, hf, h2, h3]
    rfl
  simp only [execOp, hx]
  show Sem.run P (do let v ← Instr.entry (.pointer (some ⟨it, 0, none⟩)); pure (Next.value v)) w = _
  rw [Sem.run_bind, hr]; rfl
end
def wpV (a : Nat) (o : Nat) : Value := .pointer (some ⟨a, o, none⟩)
def putV : List Value → List Nat → List Int → Nat → List Value
  | cs, [], _, _ => cs
  | cs, o :: os, vs, i => putV (cs.set o (vI (vs.getD i 0))) os vs (i + 1)
section
variable {E : Env} {P : Program} {x y : Operand} {dst : Option Nat} {t ty : TypeId} {pos : String} {af : Array Edge} {g : Option (Nat × Bool)}
end
def kT {κ : Type} (s : κ) : κ × Value := (s, vB true)
section
variable {κ : Type} [DecidableEq κ]
def addK (l : List κ) (s : κ) : List κ := if s ∈ l then l else l ++ [s]
theorem upd_kT (l : List κ) (s : κ) : upd (l.map kT) s (vB true) = (addK l s).map kT := by
  unfold addK
  induction l with
  | nil => rfl
  | cons a l ih =>
    rw [List.map_cons]
    unfold kT at *
    unfold upd
    by_cases h : s = a
    · rw [if_pos h, if_pos (by simp [h])]
      simp [h]
    · rw [if_neg h, ih]
      by_cases h2 : s ∈ l
      · rw [if_pos h2, if_pos (by simp [h2])]
        rfl
      · rw [if_neg h2, if_neg (by simp [h, h2])]
        rfl
theorem lk_kT (l : List κ) (s : κ) : lk (l.map kT) s = if s ∈ l then some (vB true) else none := by
  induction l with
  | nil => rfl
  | cons a l ih =>
    rw [List.map_cons]
    unfold kT at *
    unfold lk
    by_cases h : s = a
    · rw [if_pos h, if_pos (by simp [h])]
    · rw [if_neg h, ih]
      by_cases h2 : s ∈ l
      · rw [if_pos h2, if_pos (by simp [h2])]
      · rw [if_neg h2, if_neg (by simp [h, h2])]
def hasK (l : List κ) (s : κ) : Bool := decide (s ∈ l)
theorem hasK_mem {l : List κ} {s : κ} (h : hasK l s = true) : s ∈ l := of_decide_eq_true h
theorem hasK_not {l : List κ} {s : κ} (h : hasK l s = false) : ¬ s ∈ l := of_decide_eq_false h
theorem lk_kT_v (l : List κ) (s : κ) : (lk (l.map kT) s).getD (vB false) = vB (hasK l s) := by
  unfold hasK
  rw [lk_kT]
  by_cases h : s ∈ l
  · rw [if_pos h, decide_eq_true h]; rfl
  · rw [if_neg h, decide_eq_false h]; rfl
theorem addK_mem {l : List κ} {s x : κ} : x ∈ addK l s ↔ x ∈ l ∨ x = s := by
  unfold addK
  split
  · rename_i h
    exact ⟨.inl, fun h2 => h2.elim id fun e => e ▸ h⟩
  · rw [List.mem_append, List.mem_singleton]
theorem addK_nodup {l : List κ} {s : κ} (h : l.Nodup) : (addK l s).Nodup := by
  unfold addK
  split
  · exact h
  · rename_i h2
    rw [List.nodup_append]
    exact ⟨h, by simp, fun a ha b hb e => h2 (by rw [List.mem_singleton] at hb; rw [← hb, ← e]; exact ha)⟩
theorem addK_new {l : List κ} {s : κ} (h : ¬ s ∈ l) : addK l s = l ++ [s] := if_neg h
end
end Go.GV
