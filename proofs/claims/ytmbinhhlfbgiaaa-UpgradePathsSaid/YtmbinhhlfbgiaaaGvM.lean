/- GvM: maps of the call's own, whose entries are known in their order. -/
import Derived.Test.YtmbinhhlfbgiaaaGvH
import Derived.MapKept
namespace Go.GV
open Go.RowKit Go.MapKept
structure MapK {κ : Type} (P : Program) (kt : TypeId) (f : κ → Value) : Prop where
  ex : ∃ d, P.underlying kt = some d ∧ (∀ a, IsKey d (f a)) ∧ ∀ a b, f a = f b → a = b
theorem mapK_i {P : Program} {kt : TypeId} (h : P.underlying kt = some (.int .i64)) : MapK P kt vI := ⟨_, h, fun _ => rfl, fun a b h => by simpa using h⟩
def Born (es : Array MapEntry) (clock : Nat) : Prop := (es.toList.map (·.born)).Nodup ∧ ∀ e ∈ es.toList, e.born < clock
theorem Born.nil : Born #[] 0 := ⟨List.nodup_nil, fun _ h => by simp at h⟩
theorem Born.push {es : Array MapEntry} {clock : Nat} (h : Born es clock) (k v : Value) : Born (es.push ⟨k, v, clock⟩) (clock + 1) := by
  refine ⟨?_, fun e he => ?_⟩
  · rw [Array.toList_push, List.map_append, List.nodup_append]
    refine ⟨h.1, by simp, fun a ha b hb => ?_⟩
    simp only [List.map_cons, List.map_nil, List.mem_singleton] at hb
    subst hb
    obtain ⟨e, he, rfl⟩ := List.mem_map.1 ha
    have := h.2 e he
    omega
  · rw [Array.toList_push, List.mem_append, List.mem_singleton] at he
    rcases he with he | rfl
    · have := h.2 e he; omega
    · exact Nat.lt_succ_self _
theorem Born.modify {es : Array MapEntry} {clock : Nat} (h : Born es clock) (i : Nat) (g : MapEntry → MapEntry) (hg : ∀ e, (g e).born = e.born) : Born (es.modify i g) clock := by
  have e1 : (es.modify i g).toList.map (·.born) = es.toList.map (·.born) := by
    apply List.ext_getElem?
    intro j
    simp only [Array.toList_modify, List.getElem?_map, List.getElem?_modify]
    by_cases hij : i = j
    · subst hij
      cases es.toList[i]? <;> simp [hg]
    · simp [hij]
  refine ⟨by rw [e1]; exact h.1, fun e he => ?_⟩
  have : e.born ∈ es.toList.map (·.born) := by rw [← e1]; exact List.mem_map.2 ⟨e, he, rfl⟩
  obtain ⟨e', he', h2⟩ := List.mem_map.1 this
  have := h.2 e' he'
  omega
def Ent.mp {κ : Type} (f : κ → Value) (b : Nat) (l : List (κ × Value)) : Ent :=
  ⟨some b, fun o => ∃ es clock, o = some (.map es clock) ∧ es.toList.map (fun e => (e.key, e.val)) = l.map (fun p => (f p.1, p.2)) ∧ Born es clock⟩
def lk {κ : Type} [DecidableEq κ] : List (κ × Value) → κ → Option Value
  | [], _ => none
  | (a, v) :: l, k => if k = a then some v else lk l k
def upd {κ : Type} [DecidableEq κ] : List (κ × Value) → κ → Value → List (κ × Value)
  | [], k, v => [(k, v)]
  | (a, u) :: l, k, v => if k = a then (k, v) :: l else (a, u) :: upd l k v
section
variable {κ : Type} [DecidableEq κ] {a k : κ} {v u : Value} {l : List (κ × Value)} {r : Option Value}
theorem lk_nil : lk [] k = none := rfl
theorem lk_hit (h : k = a) : lk ((a, v) :: l) k = some v := if_pos h
theorem lk_ne (h : k ≠ a) (hr : lk l k = r) : lk ((a, v) :: l) k = r := (if_neg h).trans hr
theorem upd_new (h : lk l k = none) : upd l k v = l ++ [(k, v)] := by
  induction l with
  | nil => rfl
  | cons p l ih =>
    obtain ⟨a, u⟩ := p
    unfold lk at h
    split at h
    · cases h
    · rename_i hne
      unfold upd
      rw [if_neg hne, ih h]; rfl
theorem find_lk {d : TypeDesc} {f : κ → Value} (hd : ∀ a, IsKey d (f a)) (hi : ∀ a b, f a = f b → a = b) (k : κ) : ∀ (es : List MapEntry) (l : List (κ × Value)) (i : Nat), es.map (fun e => (e.key, e.val)) = l.map (fun p => (f p.1, p.2)) →
    (Instr.findNow d (f k) es i = some none ∧ lk l k = none) ∨ ∃ j v, Instr.findNow d (f k) es i = some (some (i + j, v)) ∧ lk l k = some v ∧ (∃ e, es[j]? = some e ∧ e.key = f k) ∧ ∀ u, (upd l k u).map (fun p => (f p.1, p.2)) = (l.map (fun p => (f p.1, p.2))).set j (f k, u)
  | [], [], i, _ => .inl ⟨rfl, rfl⟩
  | [], _ :: _, i, h => by cases h
  | _ :: _, [], i, h => by cases h
  | e :: es, (a, v) :: l, i, h => by
    simp only [List.map_cons, List.cons.injEq, Prod.mk.injEq] at h
    obtain ⟨⟨h1, h2⟩, h3⟩ := h
    obtain ⟨r, hr, hiff⟩ := sameNow_of_keys (hd k) (h1 ▸ hd a : IsKey d e.key)
    cases r with
    | true =>
      have hk : k = a := hi _ _ ((hiff.1 rfl).trans h1)
      refine .inr ⟨0, v, by simp [Instr.findNow, hr, h2], by rw [lk, if_pos hk], ⟨e, rfl, (hiff.1 rfl).symm⟩, fun u => ?_⟩
      simp [upd, if_pos hk]
    | false =>
      have hne : k ≠ a := fun q => by have := hiff.2 (by rw [h1, q]); cases this
      rcases find_lk hd hi k es l (i + 1) h3 with ⟨x1, x2⟩ | ⟨j, u, x1, x2, x3, x4⟩
      · exact .inl ⟨by simp [Instr.findNow, hr, x1], by rw [lk, if_neg hne, x2]⟩
      · refine .inr ⟨j + 1, u, by simp [Instr.findNow, hr, x1]; omega, by rw [lk, if_neg hne, x2], by simpa using x3, fun u => ?_⟩
        rw [upd, if_neg hne, List.map_cons, x4 u]; rfl
end
theorem mp_at {κ : Type} {f : κ → Value} {b : Nat} {l : List (κ × Value)} {w : World} (h : (Ent.mp f b l).at w) : ∃ es clock, w.heap[b]? = some (.map es clock) ∧ es.toList.map (fun e => (e.key, e.val)) = l.map (fun p => (f p.1, p.2)) ∧ Born es clock := by
  simpa [Ent.at, Ent.mp] using h.1
section
variable {E : Env} {P : Program} {x y z : Operand} {dst : Option Nat} {t t' ty u : TypeId} {pos : String} {af : Array Edge} {g : Option (Nat × Bool)} {κ : Type} [DecidableEq κ]
theorem run_lookup_mp {f : κ → Value} {b : Nat} {l : List (κ × Value)} {w : World} {kt et : TypeId} {zv : Value} {k : κ} (hat : (Ent.mp f b l).at w) (ht : P.underlying t = some (.map kt et)) (hK : MapK P kt f) (hz : zeroIs P et = some zv) (ok : Bool) :
    (Instr.lookup t (.map (some b)) (f k) ok).run P w = .ok (if ok then .tuple #[(lk l k).getD zv, .bool (lk l k).isSome] else (lk l k).getD zv) w := by
  obtain ⟨es, clock, hb, hes, hborn⟩ := mp_at hat
  obtain ⟨d, hd, hkey, hinj⟩ := hK.ex
  unfold Instr.lookup
  simp only [Sem.run_bind, run_underlying ht, Result.andThen_ok, MapKept.run_getObj_map hb, Sem.run_pure, MapKept.run_checkKey hd (hkey k)]
  rcases find_lk hkey hinj k es.toList l 0 hes with ⟨h1, h2⟩ | ⟨j, v, h1, h2, _⟩
  · simp only [MapKept.run_findKey hd h1, Result.andThen_ok, Sem.run_bind, run_zeroValue_is hz, Sem.run_pure, h2]
    cases ok <;> rfl
  · simp only [MapKept.run_findKey hd h1, Result.andThen_ok, Sem.run_bind, Sem.run_pure, h2]
    cases ok <;> rfl
theorem x_lookup_ok {S : List Nat} {w0 : World} {L : List Ent} (j : Nat) {f : κ → Value} {b : Nat} {l : List (κ × Value)} {kt et : TypeId} {zv : Value} {k : κ} {r : Option Value} (hx : ev E x = .map (some b)) (hy : ev E y = f k) (hj : L[j]? = some (Ent.mp f b l)) (ht : P.underlying t = some (.map kt et)) (hK : MapK P kt f) (hz : zeroIs P et = some zv) (hr : lk l k = r) :
    ∀ w, St S w0 w L → (execOp (ev E) ⟨dst, .lookup t x y true, ty, pos, af, g⟩).run P w = .ok (.value (.tuple #[r.getD zv, vB r.isSome])) w := by
  intro w hS
  subst hr
  simp only [execOp, hx, hy]
  show Sem.run P (do let v ← Instr.lookup t (.map (some b)) (f k) true; pure (Next.value v)) w = _
  rw [Sem.run_bind, run_lookup_mp (k := k) (hS.mem hj) ht hK hz true]; rfl
theorem x_lookup {S : List Nat} {w0 : World} {L : List Ent} (j : Nat) {f : κ → Value} {b : Nat} {l : List (κ × Value)} {kt et : TypeId} {zv : Value} {k : κ} {r : Option Value} (hx : ev E x = .map (some b)) (hy : ev E y = f k) (hj : L[j]? = some (Ent.mp f b l)) (ht : P.underlying t = some (.map kt et)) (hK : MapK P kt f) (hz : zeroIs P et = some zv) (hr : lk l k = r) :
    ∀ w, St S w0 w L → (execOp (ev E) ⟨dst, .lookup t x y false, ty, pos, af, g⟩).run P w = .ok (.value (r.getD zv)) w := by
  intro w hS
  subst hr
  simp only [execOp, hx, hy]
  show Sem.run P (do let v ← Instr.lookup t (.map (some b)) (f k) false; pure (Next.value v)) w = _
  rw [Sem.run_bind, run_lookup_mp (k := k) (hS.mem hj) ht hK hz false]; rfl
theorem x_lookup_v {S : List Nat} {w0 : World} {L : List Ent} (j : Nat) {f : κ → Value} {b : Nat} {l : List (κ × Value)} {kt et : TypeId} {zv v : Value} {k : κ} {r : Option Value} (hx : ev E x = .map (some b)) (hy : ev E y = f k) (hj : L[j]? = some (Ent.mp f b l)) (ht : P.underlying t = some (.map kt et)) (hK : MapK P kt f) (hz : zeroIs P et = some zv) (hr : lk l k = r) (hv : r.getD zv = v) :
    ∀ w, St S w0 w L → (execOp (ev E) ⟨dst, .lookup t x y false, ty, pos, af, g⟩).run P w = .ok (.value v) w := by
  subst hv; exact x_lookup j hx hy hj ht hK hz hr
omit [DecidableEq κ] in
theorem O_makeMap {S : List Nat} {w0 : World} {L : List Ent} {K : Value → List Ent → Prop} (f : κ → Value) (k : ∀ b, K (.map (some b)) (Ent.mp f b [] :: L)) : OpJ P S w0 E L ⟨dst, .makeMap t none, ty, pos, af, g⟩ K := by
  intro w hS
  refine ⟨_, _, _, .inl ?_, hS.alloc (.map #[] 0) (Ent.mp f w.heap.size []) rfl ⟨_, _, rfl, rfl, Born.nil⟩, k w.heap.size⟩
  have hr : (Instr.makeMap t none).run P w = .ok (.map (some w.heap.size)) (w.alloc (.map #[] 0)) := by
    simp [Instr.makeMap, newObj, Sem.run]
  simp only [execOp]
  show Sem.run P (do let v ← Instr.makeMap t none; pure (Next.value v)) w = _
  rw [Sem.run_bind, hr]; rfl
theorem run_update_mp {f : κ → Value} {b : Nat} {l : List (κ × Value)} {w : World} {kt et : TypeId} {k : κ} {v : Value} (hat : (Ent.mp f b l).at w) (ht : P.underlying t = some (.map kt et)) (hK : MapK P kt f) :
    ∃ w', (Instr.mapUpdate t (.map (some b)) (f k) v).run P w = .ok () w' ∧ Fr [b] w w' ∧ (Ent.mp f b (upd l k v)).prop w'.heap[b]? := by
  obtain ⟨es, clock, hb, hes, hborn⟩ := mp_at hat
  obtain ⟨d, hd, hkey, hinj⟩ := hK.ex
  have fr : ∀ o, Fr [b] w { w with heap := w.heap.setIfInBounds b o } := fun o => ⟨rfl, rfl, rfl, by simp, fun i hi hn => (MapKept.heap_set (o' := o) hb).2 i (by simpa using hn)⟩
  unfold Instr.mapUpdate
  simp only [Sem.run_bind, run_underlying ht, Result.andThen_ok, MapKept.run_getObj_map hb, MapKept.run_checkKey hd (hkey k)]
  rcases find_lk hkey hinj k es.toList l 0 hes with ⟨h1, h2⟩ | ⟨j, v', h1, h2, ⟨e, he, hek⟩, h4⟩
  · simp only [MapKept.run_findKey hd h1, Result.andThen_ok, MapKept.run_setObj_map _ hb]
    refine ⟨_, rfl, fr _, _, _, (MapKept.heap_set hb).1, ?_, hborn.push _ _⟩
    rw [upd_new h2]
    simp [hes]
  · have he' : es[j]? = some e := by simpa using he
    simp only [MapKept.run_findKey hd h1, Result.andThen_ok, Nat.zero_add, he', Option.map_some, Option.getD_some, hek, MapKept.run_keyThatStays (hkey k), MapKept.run_setObj_map _ hb, Sem.run_bind]
    refine ⟨_, rfl, fr _, _, _, (MapKept.heap_set hb).1, ?_, hborn.modify _ _ fun _ => rfl⟩
    rw [h4 v, ← hes]
    apply List.ext_getElem?
    intro i
    simp only [Array.toList_modify, List.getElem?_map, List.getElem?_modify, List.getElem?_set, List.length_map]
    by_cases hij : j = i
    · subst hij
      have hlt : j < es.toList.length := (List.getElem?_eq_some_iff.1 he).1
      have hlt' : j < es.size := by simpa using hlt
      simp [hlt']
    · simp [hij]
theorem O_mapUpdate {S : List Nat} {w0 : World} {L : List Ent} {K : Value → List Ent → Prop} (j : Nat) {f : κ → Value} {b : Nat} {l : List (κ × Value)} {kt et : TypeId} {k : κ} {v : Value} (l' : List (κ × Value)) (L' : List Ent) (hx : ev E x = .map (some b)) (hy : ev E y = f k) (hz : ev E z = v) (hj : L[j]? = some (Ent.mp f b l)) (ht : P.underlying t = some (.map kt et)) (hK : MapK P kt f)
    (hl : upd l k v = l') (hL : L.set j (Ent.mp f b l') = L') (kk : K undef L') : OpJ P S w0 E L ⟨dst, .mapUpdate t x y z, ty, pos, af, g⟩ K := by
  intro w hS
  subst hl; subst hL
  obtain ⟨w', hr, hF, hB⟩ := run_update_mp (P := P) (t := t) (k := k) (v := v) (hS.mem hj) ht hK
  refine ⟨undef, _, w', .inr ⟨?_, rfl⟩, hS.writeAt hj b rfl rfl hF hB, kk⟩
  simp only [execOp, hx, hy, hz]
  show Sem.run P (do Instr.mapUpdate t (.map (some b)) (f k) v; pure Next.skip) w = _
  rw [Sem.run_bind, hr]; rfl
theorem O_insert {S : List Nat} {w0 : World} {L : List Ent} {K : Value → List Ent → Prop} (j : Nat) {f : κ → Value} {b : Nat} {l : List (κ × Value)} {kt et : TypeId} {k : κ} {v : Value} (l' : List (κ × Value)) (L' : List Ent) (hx : ev E x = .map (some b)) (hy : ev E y = f k) (hz : ev E z = v) (hj : L[j]? = some (Ent.mp f b l)) (ht : P.underlying t = some (.map kt et)) (hK : MapK P kt f)
    (hl : upd l k v = l') (hL : L.set j (Ent.mp f b l') = L') (kk : K undef L') : OpJ P S w0 E L ⟨dst, .insert t x y z, ty, pos, af, g⟩ K := by
  intro w hS
  subst hl; subst hL
  obtain ⟨w', hr, hF, hB⟩ := run_update_mp (P := P) (t := t) (k := k) (v := v) (hS.mem hj) ht hK
  refine ⟨undef, _, w', .inr ⟨?_, rfl⟩, hS.writeAt hj b rfl rfl hF hB, kk⟩
  simp only [execOp, hx, hy, hz]
  show Sem.run P (do Instr.mapUpdate t (.map (some b)) (f k) v; pure Next.skip) w = _
  rw [Sem.run_bind, hr]; rfl
end
section
variable {E : Env} {P : Program} {w : World} {x y : Operand} {dst : Option Nat} {t t' ty : TypeId} {pos : String} {af : Array Edge} {g : Option (Nat × Bool)}
def isFn : Value → Bool
  | .func .. => true
  | _ => false
end
end Go.GV
