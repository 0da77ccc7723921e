/- GvKp, St39, Op39, Sh39, GvKm in one text. -/
import Derived.Test.YtbfiibgmgopnaaaDoorJobtextCalls4
import Derived.Test.YtbfiibgmgopnaaaDoorJobtextCalls3
import Derived.Shelf.Strings.Builder1
import Derived.Shelf.Strings.Builder2
import Derived.Shelf.Strings.Trim
import Derived.Shelf.Small.Utf8
import Derived.Shelf.Small.Strs
import Derived.Shelf.Strings.BuilderF
import Derived.Shelf.Strings.BuilderK
import Derived.Shelf.Utf8.RuneCount
import Derived.Shelf.Strings.Builder2Cap
import Derived.Shelf.Strings.Search1
import Derived.Shelf.Strings.Search2
import Derived.Shelf.Strings.Search3
import Derived.Shelf.Strings.Cut
import Derived.Shelf.Strings.Count
import Derived.Shelf.LaysM
import Derived.Shelf.Strings.Shaped
import Derived.Shelf.GgClosure.StringsIndexFunc
import Derived.Shelf.GgClosure.StringsIndexFuncTop
import Derived.Shelf.GgClosure.StringsRunes
import Derived.Shelf.Strings.Prefix
import Derived.Shelf.Strings.Split
import Derived.Shelf.Strings.Replace
import Derived.Shelf.Strings.SplitShaped
import Derived.Shelf.Unicode.Decode
import Derived.Shelf.Strings.Runes
import Derived.Shelf.Strings.RuneCount
import Derived.Shelf.Strings.IndexAny
import Derived.Shelf.Strings.AsciiSet
import Derived.Shelf.Strings.IndexAnyAll
import Derived.Shelf.Strings.Explode
import Derived.Shelf.Bits.Mul64
import Derived.Shelf.Strings.Repeat
import Derived.Shelf.Unicode.DecodeSlow
import Derived.Shelf.Unicode.DecodeAny
import Derived.Shelf.Strings.FuncGrows
import Derived.Shelf.Strings.BuilderCap
import Derived.Test.YtbfiibgmgopnaaaDoorRows
import Derived.Shelf.SlMaps.Clone
set_option linter.unusedVariables false
set_option linter.unusedSimpArgs false
namespace Go.GV
open Go.RowKit
def Kp (S : List Nat) (w : World) (C : World → Prop) : Prop :=
  ∃ B : Nat → Prop, (∀ b, B b → b < w.heap.size ∧ b ∉ S) ∧ ∀ w' : World, (∀ b, B b → w'.heap[b]? = w.heap[b]?) → C w'
section
variable {S S' Sc F : List Nat} {w0 w : World} {C D : World → Prop} {L Lc Lr : List Ent}
theorem Kp.now (h : Kp S w C) : C w := by obtain ⟨B, _, h⟩ := h; exact h w fun _ _ => rfl
theorem Kp.imp (h : Kp S w C) (k : ∀ w, C w → D w) : Kp S w D := by
  obtain ⟨B, h1, h2⟩ := h; exact ⟨B, h1, fun w' hw => k _ (h2 w' hw)⟩
theorem Kp.pure {p : Prop} (h : p) : Kp S w fun _ => p := ⟨fun _ => False, fun _ h => h.elim, fun _ _ => h⟩
theorem Kp.and (h : Kp S w C) (k : Kp S w D) : Kp S w fun w => C w ∧ D w := by
  obtain ⟨B, h1, h2⟩ := h; obtain ⟨B', k1, k2⟩ := k
  exact ⟨fun b => B b ∨ B' b, fun b hb => hb.elim (h1 b) (k1 b), fun w' hw => ⟨h2 w' fun b hb => hw b (.inl hb), k2 w' fun b hb => hw b (.inr hb)⟩⟩
theorem Kp.all {ι : Type} {C : ι → World → Prop} (h : ∀ i, Kp S w (C i)) : Kp S w fun w => ∀ i, C i w :=
  ⟨fun b => ∃ i, (h i).choose b, fun b ⟨i, hi⟩ => (h i).choose_spec.1 b hi, fun w' hw i => (h i).choose_spec.2 w' fun b hb => hw b ⟨i, hb⟩⟩
theorem Kp.mono (h : Kp S w C) (hs : ∀ b ∈ S', b ∈ S) : Kp S' w C := by
  obtain ⟨B, h1, h2⟩ := h; exact ⟨B, fun b hb => ⟨(h1 b hb).1, fun hh => (h1 b hb).2 (hs _ hh)⟩, h2⟩
theorem Kp.no (h : Kp S w C) : Kp [] w C := h.mono fun _ hb => by cases hb
theorem Kp.fromF (h : Kp (S ++ F) w C) : Kp S w C := h.mono fun _ hb => List.mem_append.2 (.inl hb)
theorem Kp.freshF (h : Kp (S ++ F) w C) : Kp F w C := h.mono fun _ hb => List.mem_append.2 (.inr hb)
theorem Kp.turn (h : Kp S w0 C) (hf : Fr S w0 w) (hn : ∀ b, b < w0.heap.size → b ∉ S → b ∉ Sc) : Kp Sc w C := by
  obtain ⟨B, h1, h2⟩ := h
  refine ⟨B, fun b hb => ⟨Nat.lt_of_lt_of_le (h1 b hb).1 hf.size, hn b (h1 b hb).1 (h1 b hb).2⟩, fun w' hw => h2 w' fun b hb => (hw b hb).trans (hf.block b (h1 b hb).1 (h1 b hb).2)⟩
theorem Kp.on (h : Kp S w0 C) (hS : St S w0 w (Lc ++ Lr)) (hSc : ∀ b ∈ Sc, ∃ e ∈ Lc, e.own = some b) : Kp Sc w C := by
  refine h.turn hS.fr fun b hb hn hin => ?_
  obtain ⟨e, he, ho⟩ := hSc b hin
  rcases hS.own e (by simp [he]) _ ho with h1 | h1
  · exact hn h1
  · omega
theorem Kp.on0 (h : Kp S w0 C) (hS : St S w0 w L) : Kp [] w C := h.on (Lc := []) (Lr := L) hS (by simp)
theorem Kp.again (h : Kp S w0 C) (hS : St S w0 w L) : Kp (Lown L) w C :=
  h.on (Lc := L) (Lr := []) (by rw [List.append_nil]; exact hS) lown_mem
theorem Kp.againF (h : Kp (S ++ F) w0 C) (hS : St S w0 w L) : Kp (Lown L ++ F) w C := by
  obtain ⟨B, h1, h2⟩ := h
  refine ⟨B, fun b hb => ?_, fun w' hw => h2 w' fun b hb => (hw b hb).trans (hS.fr.block b (h1 b hb).1 fun hh => (h1 b hb).2 (List.mem_append.2 (.inl hh)))⟩
  have hn := h1 b hb
  refine ⟨Nat.lt_of_lt_of_le hn.1 hS.fr.size, fun hh => ?_⟩
  rcases List.mem_append.1 hh with hh | hh
  · obtain ⟨e, he, ho⟩ := lown_mem b hh
    rcases hS.own e he _ ho with h3 | h3
    · exact hn.2 (List.mem_append.2 (.inl h3))
    · omega
  · exact hn.2 (List.mem_append.2 (.inr hh))
theorem Kp.old {S2 : List Nat} {w2 : World} (h : Kp S w0 C) (ho : Old S w0 S2 w2) : Kp S2 w2 C := by
  obtain ⟨B, h1, h2⟩ := h
  exact ⟨B, fun b hb => ⟨(ho b (h1 b hb).1 (h1 b hb).2).1, (ho b (h1 b hb).1 (h1 b hb).2).2.1⟩, fun w' hw => h2 w' fun b hb => (hw b hb).trans (ho b (h1 b hb).1 (h1 b hb).2).2.2⟩
theorem Kp.held (h : Kp S w0 C) (hS : St S w0 w L) : C w := (h.on0 hS).now
end
section
variable {S : List Nat} {w : World} {A : Option Addr} {cs : List Value}
theorem RO.kp (h : RO S w A cs) : Kp S w fun w => Cells w A cs := by
  refine ⟨fun b => ∃ (j : Nat) (v : Value) (a : Addr), cs[j]? = some v ∧ A = some a ∧ a.block = b, ?_, ?_⟩
  · rintro b ⟨j, v, a, hv, rfl, rfl⟩
    obtain ⟨a', e, hb, hn, _⟩ := h j v hv
    injection e with e; subst e
    exact ⟨hb, hn⟩
  · intro w' hw j v hv
    obtain ⟨a, rfl, hb, hn, hc⟩ := h j v hv
    refine ⟨a, rfl, ?_⟩
    rw [← hc]
    exact World.cell?_of_block (by rw [add_block]; exact hw _ ⟨j, v, a, hv, rfl, rfl⟩)
theorem cell_map {w : World} {a : Addr} {es : Array MapEntry} {c : Nat} (h : w.heap[a.block]? = some (.map es c)) : w.cell? a = none := by
  unfold World.cell?; rw [h]
theorem cell_none {w : World} {a : Addr} (h : w.heap[a.block]? = none) : w.cell? a = none := by
  unfold World.cell?; rw [h]
theorem Kp.ro (h : Kp S w fun w => Cells w A cs) : RO S w A cs := by
  obtain ⟨B, h1, h2⟩ := h
  intro j v hv
  obtain ⟨a, rfl, hc⟩ := h2 w (fun _ _ => rfl) j v hv
  by_cases hb : B a.block
  · exact ⟨a, rfl, (h1 _ hb).1, (h1 _ hb).2, hc⟩
  · exfalso
    have hb2 : B (a.add j).block → False := by rw [add_block]; exact hb
    obtain ⟨a2, e, hc2⟩ := h2 { w with heap := w.heap.setIfInBounds (a.add j).block (.map #[] 0) } (fun b hB => by
      show (w.heap.setIfInBounds (a.add j).block _)[b]? = _
      rw [Array.getElem?_setIfInBounds, if_neg (fun e : (a.add j).block = b => hb2 (by rw [e]; exact hB))]) j v hv
    injection e with e; subst e
    by_cases hlt : (a.add j).block < w.heap.size
    · rw [cell_map (es := #[]) (c := 0) (by show (w.heap.setIfInBounds (a.add j).block _)[(a.add j).block]? = _; rw [Array.getElem?_setIfInBounds, if_pos rfl, if_pos hlt])] at hc2; cases hc2
    · rw [cell_none (by show (w.heap.setIfInBounds (a.add j).block _)[(a.add j).block]? = _; rw [Array.getElem?_setIfInBounds, if_pos rfl, if_neg hlt])] at hc2; cases hc2
end
section
variable {S : List Nat} {w00 w0 w : World} {C : World → Prop} {Lc Lr : List Ent}
theorem ent_stays {e : Ent} {w w' : World} (h : e.at w) (hw : ∀ b, e.own = some b → w'.heap[b]? = w.heap[b]?) : e.at w' := by
  refine ⟨?_, fun b ho => ?_⟩
  · have h1 := h.1
    cases ho : e.own with
    | none => rw [ho] at h1; exact h1
    | some b => rw [ho] at h1; simp only [Option.bind_some] at h1 ⊢; rw [hw b ho]; exact h1
  · have := h.2 b ho
    have e1 := hw b ho
    rw [Array.getElem?_eq_getElem this] at e1
    exact (Array.getElem?_eq_some_iff.1 e1).1
theorem Kp.of_ents (hS : St S w0 w (Lc ++ Lr)) (k : ∀ w, (∀ e ∈ Lr, e.at w) → C w) : Kp (Lown Lc) w C := by
  refine ⟨fun b => ∃ e ∈ Lr, e.own = some b, ?_, fun w' hw => k w' fun e he => ent_stays (hS.hold e (by simp [he])) fun b ho => hw b ⟨e, he, ho⟩⟩
  rintro b ⟨e, he, ho⟩
  refine ⟨(hS.hold e (by simp [he])).2 b ho, fun hin => ?_⟩
  obtain ⟨x, hx, hxo⟩ := lown_mem b hin
  exact (List.pairwise_append.1 hS.dis).2.2 x hx e he b hxo ho
theorem Kp.of_entsF (hS : St S w0 w (Lc ++ Lr)) (h0 : St [] w00 w (Lc ++ Lr)) (k : ∀ w, (∀ e ∈ Lr, e.at w) → C w) : Kp (Lown Lc ++ List.range w00.heap.size) w C := by
  refine ⟨fun b => ∃ e ∈ Lr, e.own = some b, ?_, fun w' hw => k w' fun e he => ent_stays (hS.hold e (by simp [he])) fun b ho => hw b ⟨e, he, ho⟩⟩
  rintro b ⟨e, he, ho⟩
  refine ⟨(hS.hold e (by simp [he])).2 b ho, fun hin => ?_⟩
  rcases List.mem_append.1 hin with hin | hin
  · obtain ⟨x, hx, hxo⟩ := lown_mem b hin
    exact (List.pairwise_append.1 hS.dis).2.2 x hx e he b hxo ho
  · rcases h0.own e (by simp [he]) b ho with h1 | h1
    · cases h1
    · exact absurd (List.mem_range.1 hin) (by omega)
end
theorem kp_mp {S : List Nat} {w0 : World} {L : List Ent} {κ : Type} {f : κ → Value} {b : Nat} {l : List (κ × Value)} (h : Kp S w0 fun w => (Ent.mp f b l).at w) : ∀ w, St S w0 w L → (Ent.mp f b l).at w := fun _ hS => h.held hS
section
variable {E : Env} {P : Program} {x y z : Operand} {dst : Option Nat} {t t' ty u : TypeId} {pos : String} {af : Array Edge} {g : Option (Nat × Bool)} {κ : Type} [DecidableEq κ]
theorem x_lookup_okR {S : List Nat} {w0 : World} {L : List Ent} {f : κ → Value} {b : Nat} {l : List (κ × Value)} (hat : ∀ w, St S w0 w L → (Ent.mp f b l).at w) {kt et : TypeId} {zv v : Value} {o : Bool} {k : κ} {r : Option Value} (hx : ev E x = .map (some b)) (hy : ev E y = f k) (ht : P.underlying t = some (.map kt et)) (hK : MapK P kt f) (hz : zeroIs P et = some zv) (hr : lk l k = r) (hv : r.getD zv = v) (ho : r.isSome = o) :
    ∀ w, St S w0 w L → (execOp (ev E) ⟨dst, .lookup t x y true, ty, pos, af, g⟩).run P w = .ok (.value (.tuple #[v, vB o])) w := by
  intro w hS
  subst hr; subst hv; subst ho
  simp only [execOp, hx, hy]
  show Sem.run P (do let v ← Instr.lookup t (.map (some b)) (f k) true; pure (Next.value v)) w = _
  rw [Sem.run_bind, run_lookup_mp (k := k) (hat w hS) ht hK hz true]; rfl
end
def okL {α : Type} [Inhabited α] (ok : α → World → Prop) (l : List α) (w : World) : Prop := ∀ i : Nat, ok (l.getD i default) w
section
variable {α : Type} [Inhabited α] {ok : α → World → Prop} {S : List Nat} {w : World} {l m : List α}
theorem okL_at (h : Kp S w (okL ok l)) (i : Nat) : Kp S w (ok (l.getD i default)) := h.imp fun _ k => k i
theorem okL_app (h : Kp S w (okL ok l)) (k : Kp S w (okL ok m)) : Kp S w (okL ok (l ++ m)) := Kp.all fun i => by
  rcases Nat.lt_or_ge i l.length with hi | hi
  · have := okL_at h i; rwa [List.getD_eq_getElem?_getD, ← List.getElem?_append_left hi, ← List.getD_eq_getElem?_getD] at this
  · have := okL_at k (i - l.length); rwa [List.getD_eq_getElem?_getD, ← List.getElem?_append_right hi, ← List.getD_eq_getElem?_getD] at this
theorem okL_snoc {a : α} (h : Kp S w (okL ok l)) (k : Kp S w (ok a)) : Kp S w (okL ok (l ++ [a])) := Kp.all fun i => by
  rcases Nat.lt_or_ge i l.length with hi | hi
  · have := okL_at h i; rwa [List.getD_eq_getElem?_getD, ← List.getElem?_append_left hi, ← List.getD_eq_getElem?_getD] at this
  · rcases Nat.eq_or_lt_of_le hi with rfl | hi
    · rw [List.getD_eq_getElem?_getD, List.getElem?_append_right (Nat.le_refl _), Nat.sub_self]; exact k
    · have := okL_at h i
      rw [List.getD_eq_getElem?_getD, List.getElem?_eq_none (by omega)] at this
      rw [List.getD_eq_getElem?_getD, List.getElem?_eq_none (by rw [List.length_append, List.length_singleton]; omega)]
      exact this
theorem okL_set {a : α} (h : Kp S w (okL ok l)) (k : Kp S w (ok a)) (n : Nat) : Kp S w (okL ok (l.set n a)) := Kp.all fun i => by
  have h1 := okL_at h i
  by_cases hi : n = i
  · subst hi
    rcases Nat.lt_or_ge n l.length with hl | hl
    · rw [List.getD_eq_getElem?_getD, List.getElem?_set_self hl]; exact k
    · rw [List.set_eq_of_length_le hl]; exact h1
  · rwa [List.getD_eq_getElem?_getD, ← List.getElem?_set_ne hi, ← List.getD_eq_getElem?_getD] at h1
end
theorem okL_nil {α : Type} [Inhabited α] {ok : α → World → Prop} {S : List Nat} {w : World} (h : Kp S w (ok default)) : Kp S w (okL ok ([] : List α)) := Kp.all fun _ => h
theorem kp_cnil {S : List Nat} {w : World} {A : Option Addr} : Kp S w fun w => Cells w A [] := Kp.imp (Kp.pure trivial) fun _ _ j v h => by simp at h
section
variable {S Sc : List Nat} {w0 w wc wb w00 : World} {L L' Lc Lr : List Ent} {C : World → Prop}
theorem lown_app (L M : List Ent) : Lown (L ++ M) = Lown L ++ Lown M := List.filterMap_append
theorem lown_rangeA (hc : St S w0 wc (Lc ++ Lr)) : ∀ b ∈ Lown (L' ++ Lr), b ∈ Lown L' ++ List.range wc.heap.size := fun b hb => by
  rw [lown_app] at hb
  rcases List.mem_append.1 hb with hb | hb
  · exact List.mem_append.2 (.inl hb)
  · obtain ⟨e, he, ho⟩ := lown_mem b hb
    exact List.mem_append.2 (.inr (List.mem_range.2 ((hc.hold e (List.mem_append.2 (.inr he))).2 b ho)))
theorem lown_rangeAF (hc : St S w0 wc (Lc ++ Lr)) (h0 : w00.heap.size ≤ wc.heap.size) : ∀ b ∈ Lown (L' ++ Lr) ++ List.range w00.heap.size, b ∈ Lown L' ++ List.range wc.heap.size := fun b hb => by
  rcases List.mem_append.1 hb with hb | hb
  · exact lown_rangeA hc b hb
  · exact List.mem_append.2 (.inr (List.mem_range.2 (Nat.lt_of_lt_of_le (List.mem_range.1 hb) h0)))
theorem Kp.of_ent {e : Ent} (hS : St S w0 w L) (j : Nat) (hj : L[j]? = some e) : Kp [] w e.at := by
  have := Kp.of_ents (S := S) (w0 := w0) (Lc := []) (Lr := L) (C := e.at) hS fun w h => h e (List.mem_of_getElem? hj)
  exact this
end
def kvS (p : Bytes × Bytes) : Bytes × Value := (p.1, vS p.2)
def putK {α : Type} : List (Bytes × α) → Bytes → α → List (Bytes × α)
  | [], k, v => [(k, v)]
  | (a, u) :: l, k, v => if k = a then (k, v) :: l else (a, u) :: putK l k v
def lookK {α : Type} (l : List (Bytes × α)) (k : Bytes) : Option α := (l.find? fun p => p.1 = k).map (·.2)
theorem lk_map {α : Type} (enc : α → Value) (k : Bytes) : ∀ l : List (Bytes × α), lk (l.map fun p => (p.1, enc p.2)) k = (lookK l k).map enc
  | [] => rfl
  | (a, v) :: l => by
    have ih := lk_map enc k l
    unfold lookK at *
    rw [List.map_cons, lk, List.find?_cons]
    by_cases h : k = a
    · subst h; rw [if_pos rfl]; simp
    · rw [if_neg h, ih]
      rw [show decide ((a, v).1 = k) = false from decide_eq_false (fun e : a = k => h e.symm)]
theorem upd_map {α : Type} (enc : α → Value) (k : Bytes) (v : α) : ∀ l : List (Bytes × α), upd (l.map fun p => (p.1, enc p.2)) k (enc v) = (putK l k v).map fun p => (p.1, enc p.2)
  | [] => rfl
  | (a, u) :: l => by
    rw [List.map_cons, upd, putK]
    by_cases h : k = a
    · rw [if_pos h, if_pos h]; rfl
    · rw [if_neg h, if_neg h, upd_map enc k v l]; rfl
theorem lk_kv (l : List (Bytes × Bytes)) (k : Bytes) : lk (l.map kvS) k = (lookK l k).map vS := lk_map vS k l
theorem upd_kv (l : List (Bytes × Bytes)) (k v : Bytes) : upd (l.map kvS) k (vS v) = (putK l k v).map kvS := upd_map vS k v l
theorem getD_kv (o : Option Bytes) : (o.map vS).getD (vS []) = vS (o.getD []) := by cases o <;> rfl
theorem isSome_mp {α : Type} (o : Option α) (f : α → Value) : (o.map f).isSome = o.isSome := by cases o <;> rfl
theorem look_put {α : Type} (k q : Bytes) (v : α) : ∀ l : List (Bytes × α), lookK (putK l k v) q = if q = k then some v else lookK l q
  | [] => by
    unfold lookK putK
    rw [List.find?_cons]
    by_cases h : q = k
    · subst h; simp
    · rw [if_neg h, show decide ((k, v).1 = q) = false from decide_eq_false (fun e : k = q => h e.symm)]
  | (a, u) :: l => by
    have ih := look_put k q v l
    unfold lookK at *
    rw [putK]
    by_cases h : k = a
    · subst h
      rw [if_pos rfl, List.find?_cons, List.find?_cons]
      by_cases hq : q = k
      · subst hq; simp
      · rw [if_neg hq, show decide ((k, v).1 = q) = false from decide_eq_false (fun e : k = q => hq e.symm)]
    · rw [if_neg h, List.find?_cons, List.find?_cons]
      by_cases hq : q = a
      · subst hq
        rw [if_neg (fun e => h e.symm)]; simp
      · rw [show decide ((a, u).1 = q) = false from decide_eq_false (fun e : a = q => hq e.symm)]
        exact ih
theorem put_new {α : Type} (k : Bytes) (v : α) : ∀ l : List (Bytes × α), lookK l k = none → putK l k v = l ++ [(k, v)]
  | [], _ => rfl
  | (a, u) :: l, h => by
    unfold lookK at h
    rw [List.find?_cons] at h
    by_cases e : a = k
    · subst e; simp at h
    · rw [show decide ((a, u).1 = k) = false from decide_eq_false e] at h
      rw [putK, if_neg (fun q => e q.symm), put_new k v l h]; rfl
end Go.GV

namespace Go.Proofs.YtbfiibgmgopnaaaDoor
open Go.GV
structure Row where
  number : Int
  text : Bytes
deriving DecidableEq, Inhabited
def Row.enc (a : Row) : List Value := [vI a.number, vS a.text]
theorem Row.enc_len (a : Row) : (Row.enc a).length = 2 := rfl
theorem Row.enc_one (a : Row) : (Row.enc a).all Value.oneCell' = true := rfl
structure Statement where
  Line : Int
  Call : Bytes
  Words : List Bytes
  WordsA : Option Addr
  WordsC : Nat
  Data : List Bytes
  DataA : Option Addr
  DataC : Nat
deriving Inhabited
def Statement.enc (a : Statement) : List Value := [vI a.Line, vS a.Call, vL a.WordsA a.Words.length a.WordsC, vL a.DataA a.Data.length a.DataC]
theorem Statement.enc_len (a : Statement) : (Statement.enc a).length = 4 := rfl
theorem Statement.enc_one (a : Statement) : (Statement.enc a).all Value.oneCell' = true := rfl
structure Proc where
  vals : List (Bytes × Bytes)
  valsB : Nat
  rows : List Row
  rowsA : Option Addr
  rowsC : Nat
deriving Inhabited
def Proc.enc (a : Proc) : List Value := [Value.map (some a.valsB), vL a.rowsA a.rows.length a.rowsC]
theorem Proc.enc_len (a : Proc) : (Proc.enc a).length = 2 := rfl
theorem Proc.enc_one (a : Proc) : (Proc.enc a).all Value.oneCell' = true := rfl
def Statement.ok (e : Statement) (w : World) : Prop := Cells w e.WordsA (e.Words.map vS) ∧ Cells w e.DataA (e.Data.map vS) ∧ e.Data.length ≤ e.DataC
def Proc.ok (e : Proc) (w : World) : Prop := (Ent.mp vS e.valsB (e.vals.map kvS)).at w ∧ Cells w e.rowsA (e.rows.flatMap Row.enc)
end Go.Proofs.YtbfiibgmgopnaaaDoor

namespace Go.Proofs.YtbfiibgmgopnaaaDoor
open Go.GV
namespace Ty
def _root_.Go.Proofs.YtbfiibgmgopnaaaDoor.Row.ok (a : Row) : Prop := (-9223372036854775808 ≤ a.number ∧ a.number ≤ 9223372036854775807) ∧ a.text.length ≤ 9223372036854775807
end Ty
end Go.Proofs.YtbfiibgmgopnaaaDoor

namespace Go.Proofs
open Go.Shelf
open Go.RowKit Go.Lib
def Tryd.lays161_ren : Go.Shelf.Ren := ⟨fun | 161 => 23 | 231 => 45 | 227 => 46 | 233 => 47 | 235 => 48 | 228 => 67 | 197 => 58 | 151 => 68 | 260 => 81 | 152 => 79 | 137 => 25 | 119 => 96 | 224 => 83 | 225 => 82 | 217 => 51 | 266 => 70 | n => n, fun | 9 => 9 | 4 => 4 | 3 => 3 | 5 => 5 | 117 => 91 | 116 => 90 | 0 => 0 | 124 => 94 | 105 => 98 | 21 => 21 | 119 => 129 | 46 => 84 | 139 => 132 | 138 => 131 | n => n, fun | 3 => 1 | 4 => 2 | n => n⟩
theorem Tryd.lays161 : Go.Proofs.Lays.n161 Tryd.prog Tryd.lays161_ren := {
  mixed := by kernel_rfl
  f119 := Tryd.func96.trans (congrArg some (by kernel_rfl))
  f137 := Tryd.func25.trans (congrArg some (by kernel_rfl))
  f151 := Tryd.func68.trans (congrArg some (by kernel_rfl))
  f152 := Tryd.func79.trans (congrArg some (by kernel_rfl))
  f161 := Tryd.func23.trans (congrArg some (by kernel_rfl))
  f197 := Tryd.func58.trans (congrArg some (by kernel_rfl))
  f217 := Tryd.func51.trans (congrArg some (by kernel_rfl))
  f224 := Tryd.func83.trans (congrArg some (by kernel_rfl))
  f225 := Tryd.func82.trans (congrArg some (by kernel_rfl))
  f227 := Tryd.func46.trans (congrArg some (by kernel_rfl))
  f228 := Tryd.func67.trans (congrArg some (by kernel_rfl))
  f231 := Tryd.func45.trans (congrArg some (by kernel_rfl))
  f233 := Tryd.func47.trans (congrArg some (by kernel_rfl))
  f235 := Tryd.func48.trans (congrArg some (by kernel_rfl))
  f260 := Tryd.func81.trans (congrArg some (by kernel_rfl))
  f266 := Tryd.func70.trans (congrArg some (by kernel_rfl))
  t0 := Tryd.underlying0
  a0 := Tryd.isAgg0
  z0 := Tryd.sizeOf0
  v0 := Tryd.zeroValue0
  t3 := Tryd.underlying3
  a3 := Tryd.isAgg3
  z3 := Tryd.sizeOf3
  v3 := Tryd.zeroValue3
  t4 := Tryd.underlying4
  a4 := Tryd.isAgg4
  z4 := Tryd.sizeOf4
  v4 := Tryd.zeroValue4
  t5 := Tryd.underlying5
  a5 := Tryd.isAgg5
  z5 := Tryd.sizeOf5
  v5 := Tryd.zeroValue5
  t9 := Tryd.underlying9
  a9 := Tryd.isAgg9
  z9 := Tryd.sizeOf9
  v9 := Tryd.zeroValue9
  t21 := Tryd.underlying21
  a21 := Tryd.isAgg21
  z21 := Tryd.sizeOf21
  v21 := Tryd.zeroValue21
  t46 := Tryd.underlying84
  a46 := Tryd.isAgg84
  z46 := Tryd.sizeOf84
  v46 := Tryd.zeroValue84
  t105 := Tryd.underlying98
  a105 := Tryd.isAgg98
  z105 := Tryd.sizeOf98
  v105 := Tryd.zeroValue98
  t116 := Tryd.underlying90
  a116 := Tryd.isAgg90
  z116 := Tryd.sizeOf90
  t117 := Tryd.underlying91
  a117 := Tryd.isAgg91
  z117 := Tryd.sizeOf91
  v117 := Tryd.zeroValue91
  t119 := Tryd.underlying129
  a119 := Tryd.isAgg129
  z119 := Tryd.sizeOf129
  t124 := Tryd.underlying94
  a124 := Tryd.isAgg94
  z124 := Tryd.sizeOf94
  v124 := Tryd.zeroValue94
  t138 := Tryd.underlying131
  a138 := Tryd.isAgg131
  z138 := Tryd.sizeOf131
  v138 := Tryd.zeroValue131
  t139 := Tryd.underlying132
  a139 := Tryd.isAgg132
  z139 := Tryd.sizeOf132
  v139 := Tryd.zeroValue132
  g3 := by kernel_rfl
  g4 := by kernel_rfl }
theorem Tryd.strings_TrimLeft_one (s : ByteArray) (c : UInt8) (hc : c.toNat < 128) (w : World) :
    Calls Tryd.prog 23 #[.string s, .string ⟨#[c]⟩] w fun e w' => e = .returned (.string ⟨(Lib.trimLeftB s.data.toList c).toArray⟩) ∧ w' = w := Any.strings_TrimLeft_one Tryd.lays161 s c hc w
def Tryd.lays137_ren : Go.Shelf.Ren := ⟨fun | 137 => 25 | 217 => 51 | 266 => 70 | n => n, fun | 9 => 9 | 5 => 5 | 3 => 3 | n => n, fun | n => n⟩
theorem Tryd.lays137 : Go.Proofs.Lays.n137 Tryd.prog Tryd.lays137_ren := {
  mixed := by kernel_rfl
  f137 := Tryd.func25.trans (congrArg some (by kernel_rfl))
  f217 := Tryd.func51.trans (congrArg some (by kernel_rfl))
  f266 := Tryd.func70.trans (congrArg some (by kernel_rfl))
  t3 := Tryd.underlying3
  a3 := Tryd.isAgg3
  z3 := Tryd.sizeOf3
  v3 := Tryd.zeroValue3
  t5 := Tryd.underlying5
  a5 := Tryd.isAgg5
  z5 := Tryd.sizeOf5
  v5 := Tryd.zeroValue5
  t9 := Tryd.underlying9
  a9 := Tryd.isAgg9
  z9 := Tryd.sizeOf9
  v9 := Tryd.zeroValue9 }
theorem Tryd.strings_IndexByte (s : ByteArray) (c : Int) (w : World) :
    Calls Tryd.prog 25 #[.string s, .int .u8 c] w fun e w' => e = .returned (.int .i64 (Lib.indexByte s.data.toList c.toNat.toUInt8)) ∧ w' = w := Any.strings_IndexByte Tryd.lays137 s c w
def Tryd.lays144_ren : Go.Shelf.Ren := ⟨fun | 144 => 18 | 143 => 36 | 219 => 59 | 217 => 51 | 225 => 82 | 224 => 83 | 267 => 84 | 266 => 70 | 314 => 97 | n => n, fun | 9 => 9 | 4 => 4 | 3 => 3 | 5 => 5 | 46 => 84 | 146 => 105 | 51 => 104 | n => n, fun | 1 => 0 | n => n⟩
theorem Tryd.lays144 : Go.Proofs.Lays.n144 Tryd.prog Tryd.lays144_ren := {
  mixed := by kernel_rfl
  f143 := Tryd.func36.trans (congrArg some (by kernel_rfl))
  f144 := Tryd.func18.trans (congrArg some (by kernel_rfl))
  f217 := Tryd.func51.trans (congrArg some (by kernel_rfl))
  f219 := Tryd.func59.trans (congrArg some (by kernel_rfl))
  f224 := Tryd.func83.trans (congrArg some (by kernel_rfl))
  f225 := Tryd.func82.trans (congrArg some (by kernel_rfl))
  f266 := Tryd.func70.trans (congrArg some (by kernel_rfl))
  f267 := Tryd.func84.trans (congrArg some (by kernel_rfl))
  f314 := Tryd.func97.trans (congrArg some (by kernel_rfl))
  t3 := Tryd.underlying3
  a3 := Tryd.isAgg3
  z3 := Tryd.sizeOf3
  v3 := Tryd.zeroValue3
  t4 := Tryd.underlying4
  a4 := Tryd.isAgg4
  z4 := Tryd.sizeOf4
  v4 := Tryd.zeroValue4
  t5 := Tryd.underlying5
  a5 := Tryd.isAgg5
  z5 := Tryd.sizeOf5
  v5 := Tryd.zeroValue5
  t9 := Tryd.underlying9
  a9 := Tryd.isAgg9
  z9 := Tryd.sizeOf9
  v9 := Tryd.zeroValue9
  t46 := Tryd.underlying84
  a46 := Tryd.isAgg84
  z46 := Tryd.sizeOf84
  v46 := Tryd.zeroValue84
  t51 := Tryd.underlying104
  a51 := Tryd.isAgg104
  z51 := Tryd.sizeOf104
  v51 := Tryd.zeroValue104
  t146 := Tryd.underlying105
  a146 := Tryd.isAgg105
  z146 := Tryd.sizeOf105
  v146 := Tryd.zeroValue105
  g1 := by kernel_rfl }
theorem Tryd.strings_Contains_one (s : ByteArray) (c : UInt8) (w : World) :
    Calls Tryd.prog 18 #[.string s, .string ⟨#[c]⟩] w fun e w' => e = .returned (.bool (decide (0 ≤ Lib.indexByte s.data.toList c))) ∧ w' = w := Any.strings_Contains_one Tryd.lays144 s c w
def Tryd.lays145_ren : Go.Shelf.Ren := ⟨fun | 145 => 29 | 220 => 54 | 219 => 59 | 217 => 51 | 225 => 82 | 224 => 83 | 267 => 84 | 266 => 70 | 314 => 97 | n => n, fun | 9 => 9 | 4 => 4 | 59 => 49 | 3 => 3 | 5 => 5 | 46 => 84 | 146 => 105 | 51 => 104 | n => n, fun | 1 => 0 | n => n⟩
theorem Tryd.lays145 : Go.Proofs.Lays.n145 Tryd.prog Tryd.lays145_ren := {
  mixed := by kernel_rfl
  f145 := Tryd.func29.trans (congrArg some (by kernel_rfl))
  f217 := Tryd.func51.trans (congrArg some (by kernel_rfl))
  f219 := Tryd.func59.trans (congrArg some (by kernel_rfl))
  f220 := Tryd.func54.trans (congrArg some (by kernel_rfl))
  f224 := Tryd.func83.trans (congrArg some (by kernel_rfl))
  f225 := Tryd.func82.trans (congrArg some (by kernel_rfl))
  f266 := Tryd.func70.trans (congrArg some (by kernel_rfl))
  f267 := Tryd.func84.trans (congrArg some (by kernel_rfl))
  f314 := Tryd.func97.trans (congrArg some (by kernel_rfl))
  t3 := Tryd.underlying3
  a3 := Tryd.isAgg3
  z3 := Tryd.sizeOf3
  v3 := Tryd.zeroValue3
  t4 := Tryd.underlying4
  a4 := Tryd.isAgg4
  z4 := Tryd.sizeOf4
  v4 := Tryd.zeroValue4
  t5 := Tryd.underlying5
  a5 := Tryd.isAgg5
  z5 := Tryd.sizeOf5
  v5 := Tryd.zeroValue5
  t9 := Tryd.underlying9
  a9 := Tryd.isAgg9
  z9 := Tryd.sizeOf9
  v9 := Tryd.zeroValue9
  t46 := Tryd.underlying84
  a46 := Tryd.isAgg84
  z46 := Tryd.sizeOf84
  v46 := Tryd.zeroValue84
  t51 := Tryd.underlying104
  a51 := Tryd.isAgg104
  z51 := Tryd.sizeOf104
  v51 := Tryd.zeroValue104
  t59 := Tryd.underlying49
  a59 := Tryd.isAgg49
  z59 := Tryd.sizeOf49
  v59 := Tryd.zeroValue49
  t146 := Tryd.underlying105
  a146 := Tryd.isAgg105
  z146 := Tryd.sizeOf105
  v146 := Tryd.zeroValue105
  g1 := by kernel_rfl }
theorem Tryd.strings_Cut (s sep : ByteArray) (m : Int) (w : World) (hs : s.size < 4294967281) (hm : w.cell? ⟨0, 0, none⟩ = some (.int .i64 m)) :
    Calls Tryd.prog 29 #[.string s, .string sep] w fun e w' => e = .returned (.tuple #[.string ⟨(Lib.cut s.data.toList sep.data.toList).1.toArray⟩, .string ⟨(Lib.cut s.data.toList sep.data.toList).2.1.toArray⟩, .bool (Lib.cut s.data.toList sep.data.toList).2.2]) ∧ ∃ n, w' = w.drewN n := Any.strings_Cut Tryd.lays145 s sep m w hs hm
def Tryd.lays138_ren : Go.Shelf.Ren := ⟨fun | 138 => 22 | 195 => 43 | 218 => 44 | 143 => 36 | 219 => 59 | 217 => 51 | 225 => 82 | 224 => 83 | 267 => 84 | 266 => 70 | 314 => 97 | n => n, fun | 9 => 9 | 3 => 3 | 4 => 4 | 5 => 5 | 0 => 0 | 46 => 84 | 146 => 105 | 51 => 104 | n => n, fun | 1 => 0 | n => n⟩
def Tryd.laysGw15_ren : Go.Shelf.Ren := ⟨fun | 15 => 49 | 20 => 69 | n => n, fun | 9 => 9 | 23 => 96 | 3 => 3 | 4 => 4 | 0 => 0 | 21 => 21 | n => n, fun | n => n⟩
theorem Tryd.laysGw15 : Go.Proofs.LaysGw.n15 Tryd.prog Tryd.laysGw15_ren := {
  mixed := by kernel_rfl
  f15 := Tryd.func49.trans (congrArg some (by kernel_rfl))
  f20 := Tryd.func69.trans (congrArg some (by kernel_rfl))
  t0 := Tryd.underlying0
  a0 := Tryd.isAgg0
  z0 := Tryd.sizeOf0
  v0 := Tryd.zeroValue0
  i0 := by kernel_rfl
  t3 := Tryd.underlying3
  a3 := Tryd.isAgg3
  z3 := Tryd.sizeOf3
  v3 := Tryd.zeroValue3
  i3 := by kernel_rfl
  t4 := Tryd.underlying4
  a4 := Tryd.isAgg4
  z4 := Tryd.sizeOf4
  v4 := Tryd.zeroValue4
  i4 := by kernel_rfl
  t9 := Tryd.underlying9
  a9 := Tryd.isAgg9
  z9 := Tryd.sizeOf9
  v9 := Tryd.zeroValue9
  i9 := by kernel_rfl
  t21 := Tryd.underlying21
  a21 := Tryd.isAgg21
  z21 := Tryd.sizeOf21
  v21 := Tryd.zeroValue21
  i21 := by kernel_rfl
  t23 := Tryd.underlying96
  a23 := Tryd.isAgg96
  z23 := Tryd.sizeOf96
  v23 := Tryd.zeroValue96
  i23 := by kernel_rfl }
def Tryd.lays99_ren : Go.Shelf.Ren := ⟨fun | 99 => 27 | 206 => 53 | n => n, fun | 9 => 9 | 4 => 4 | 3 => 3 | n => n, fun | n => n⟩
theorem Tryd.lays99 : Go.Proofs.Lays.n99 Tryd.prog Tryd.lays99_ren := {
  mixed := by kernel_rfl
  f99 := Tryd.func27.trans (congrArg some (by kernel_rfl))
  f206 := Tryd.func53.trans (congrArg some (by kernel_rfl))
  t3 := Tryd.underlying3
  a3 := Tryd.isAgg3
  z3 := Tryd.sizeOf3
  v3 := Tryd.zeroValue3
  t4 := Tryd.underlying4
  a4 := Tryd.isAgg4
  z4 := Tryd.sizeOf4
  v4 := Tryd.zeroValue4
  t9 := Tryd.underlying9
  a9 := Tryd.isAgg9
  z9 := Tryd.sizeOf9
  v9 := Tryd.zeroValue9 }
theorem Tryd.strings_HasPrefix (s p : ByteArray) (w : World) :
    Calls Tryd.prog 27 #[.string s, .string p] w fun e w' => e = .returned (.bool (Lib.hasPrefix s.data.toList p.data.toList)) ∧ w' = w := Any.strings_HasPrefix Tryd.lays99 s p w
def Tryd.lays102_ren : Go.Shelf.Ren := ⟨fun | 102 => 38 | 209 => 61 | 207 => 85 | n => n, fun | 9 => 9 | 4 => 4 | 3 => 3 | n => n, fun | n => n⟩
theorem Tryd.lays102 : Go.Proofs.Lays.n102 Tryd.prog Tryd.lays102_ren := {
  mixed := by kernel_rfl
  f102 := Tryd.func38.trans (congrArg some (by kernel_rfl))
  f207 := Tryd.func85.trans (congrArg some (by kernel_rfl))
  f209 := Tryd.func61.trans (congrArg some (by kernel_rfl))
  t3 := Tryd.underlying3
  a3 := Tryd.isAgg3
  z3 := Tryd.sizeOf3
  v3 := Tryd.zeroValue3
  t4 := Tryd.underlying4
  a4 := Tryd.isAgg4
  z4 := Tryd.sizeOf4
  v4 := Tryd.zeroValue4
  t9 := Tryd.underlying9
  a9 := Tryd.isAgg9
  z9 := Tryd.sizeOf9
  v9 := Tryd.zeroValue9 }
theorem Tryd.strings_TrimSuffix (s p : ByteArray) (w : World) (hs : s.size ≤ 9223372036854775807) :
    Calls Tryd.prog 38 #[.string s, .string p] w fun e w' => e = .returned (.string ⟨(Lib.trimSuffix s.data.toList p.data.toList).toArray⟩) ∧ w' = w := Any.strings_TrimSuffix Tryd.lays102 s p w hs
def Tryd.lays146_ren : Go.Shelf.Ren := ⟨fun | 146 => 93 | 221 => 102 | 268 => 105 | 138 => 22 | 143 => 36 | 195 => 43 | 197 => 58 | 218 => 44 | 219 => 59 | 260 => 81 | 217 => 51 | 225 => 82 | 224 => 83 | 267 => 84 | 266 => 70 | 314 => 97 | n => n, fun | 9 => 9 | 31 => 24 | 3 => 3 | 4 => 4 | 0 => 0 | 105 => 98 | 21 => 21 | 5 => 5 | 46 => 84 | 119 => 129 | 139 => 132 | 138 => 131 | 146 => 105 | 51 => 104 | n => n, fun | 1 => 0 | 3 => 1 | 4 => 2 | n => n⟩
theorem Tryd.lays146 : Go.Proofs.Lays.n146 Tryd.prog Tryd.lays146_ren := {
  mixed := by kernel_rfl
  f138 := Tryd.func22.trans (congrArg some (by kernel_rfl))
  f143 := Tryd.func36.trans (congrArg some (by kernel_rfl))
  f146 := Tryd.func93.trans (congrArg some (by kernel_rfl))
  f195 := Tryd.func43.trans (congrArg some (by kernel_rfl))
  f197 := Tryd.func58.trans (congrArg some (by kernel_rfl))
  f217 := Tryd.func51.trans (congrArg some (by kernel_rfl))
  f218 := Tryd.func44.trans (congrArg some (by kernel_rfl))
  f219 := Tryd.func59.trans (congrArg some (by kernel_rfl))
  f221 := Tryd.func102.trans (congrArg some (by kernel_rfl))
  f224 := Tryd.func83.trans (congrArg some (by kernel_rfl))
  f225 := Tryd.func82.trans (congrArg some (by kernel_rfl))
  f260 := Tryd.func81.trans (congrArg some (by kernel_rfl))
  f266 := Tryd.func70.trans (congrArg some (by kernel_rfl))
  f267 := Tryd.func84.trans (congrArg some (by kernel_rfl))
  f268 := Tryd.func105.trans (congrArg some (by kernel_rfl))
  f314 := Tryd.func97.trans (congrArg some (by kernel_rfl))
  t0 := Tryd.underlying0
  a0 := Tryd.isAgg0
  z0 := Tryd.sizeOf0
  v0 := Tryd.zeroValue0
  t3 := Tryd.underlying3
  a3 := Tryd.isAgg3
  z3 := Tryd.sizeOf3
  v3 := Tryd.zeroValue3
  t4 := Tryd.underlying4
  a4 := Tryd.isAgg4
  z4 := Tryd.sizeOf4
  v4 := Tryd.zeroValue4
  t5 := Tryd.underlying5
  a5 := Tryd.isAgg5
  z5 := Tryd.sizeOf5
  v5 := Tryd.zeroValue5
  t9 := Tryd.underlying9
  a9 := Tryd.isAgg9
  z9 := Tryd.sizeOf9
  v9 := Tryd.zeroValue9
  t21 := Tryd.underlying21
  a21 := Tryd.isAgg21
  z21 := Tryd.sizeOf21
  v21 := Tryd.zeroValue21
  t31 := Tryd.underlying24
  a31 := Tryd.isAgg24
  z31 := Tryd.sizeOf24
  v31 := Tryd.zeroValue24
  t46 := Tryd.underlying84
  a46 := Tryd.isAgg84
  z46 := Tryd.sizeOf84
  v46 := Tryd.zeroValue84
  t51 := Tryd.underlying104
  a51 := Tryd.isAgg104
  z51 := Tryd.sizeOf104
  v51 := Tryd.zeroValue104
  t105 := Tryd.underlying98
  a105 := Tryd.isAgg98
  z105 := Tryd.sizeOf98
  v105 := Tryd.zeroValue98
  t119 := Tryd.underlying129
  a119 := Tryd.isAgg129
  z119 := Tryd.sizeOf129
  t138 := Tryd.underlying131
  a138 := Tryd.isAgg131
  z138 := Tryd.sizeOf131
  v138 := Tryd.zeroValue131
  t139 := Tryd.underlying132
  a139 := Tryd.isAgg132
  z139 := Tryd.sizeOf132
  v139 := Tryd.zeroValue132
  t146 := Tryd.underlying105
  a146 := Tryd.isAgg105
  z146 := Tryd.sizeOf105
  v146 := Tryd.zeroValue105
  g1 := by kernel_rfl
  g3 := by kernel_rfl
  g4 := by kernel_rfl }
theorem Tryd.strings_Split (s sep : ByteArray) (m : Int) (w : World) (hs : s.size < 4294967281) (hm : w.cell? ⟨0, 0, none⟩ = some (.int .i64 m)) (h1 : 1 ≤ sep.size) :
    Calls Tryd.prog 93 #[.string s, .string sep] w fun e w' =>
      e = .returned (.slice (some ⟨w.heap.size, 0, none⟩) (Lib.countB s sep + 1) (Lib.countB s sep + 1)) ∧ w' = w.alloc (.cells ((Lib.splitB sep 0 (Lib.countB s sep) s).map Value.string).toArray 9) := Any.strings_Split Tryd.lays146 (by kernel_rfl) s sep m w hs hm h1
def Tryd.lays155_ren : Go.Shelf.Ren := ⟨fun | 155 => 17 | 154 => 35 | 138 => 22 | 165 => 42 | 143 => 36 | 166 => 26 | 197 => 58 | 169 => 32 | 195 => 43 | 218 => 44 | 240 => 52 | 241 => 66 | 219 => 59 | 260 => 81 | 276 => 71 | 277 => 92 | 217 => 51 | 225 => 82 | 224 => 83 | 267 => 84 | 266 => 70 | 314 => 97 | n => n, fun | 9 => 9 | 3 => 3 | 4 => 4 | 72 => 54 | 0 => 0 | 76 => 58 | 105 => 98 | 21 => 21 | 5 => 5 | 70 => 51 | 20 => 20 | 37 => 52 | 75 => 57 | 127 => 97 | 164 => 113 | 46 => 84 | 119 => 129 | 139 => 132 | 138 => 131 | 146 => 105 | 51 => 104 | 80 => 65 | n => n, fun | 1 => 0 | 3 => 1 | 4 => 2 | n => n⟩
theorem Tryd.lays155 : Go.Proofs.Lays.n155 Tryd.prog Tryd.lays155_ren := {
  mixed := by kernel_rfl
  f138 := Tryd.func22.trans (congrArg some (by kernel_rfl))
  f143 := Tryd.func36.trans (congrArg some (by kernel_rfl))
  f154 := Tryd.func35.trans (congrArg some (by kernel_rfl))
  f155 := Tryd.func17.trans (congrArg some (by kernel_rfl))
  f165 := Tryd.func42.trans (congrArg some (by kernel_rfl))
  f166 := Tryd.func26.trans (congrArg some (by kernel_rfl))
  f169 := Tryd.func32.trans (congrArg some (by kernel_rfl))
  f195 := Tryd.func43.trans (congrArg some (by kernel_rfl))
  f197 := Tryd.func58.trans (congrArg some (by kernel_rfl))
  f217 := Tryd.func51.trans (congrArg some (by kernel_rfl))
  f218 := Tryd.func44.trans (congrArg some (by kernel_rfl))
  f219 := Tryd.func59.trans (congrArg some (by kernel_rfl))
  f224 := Tryd.func83.trans (congrArg some (by kernel_rfl))
  f225 := Tryd.func82.trans (congrArg some (by kernel_rfl))
  f240 := Tryd.func52.trans (congrArg some (by kernel_rfl))
  f241 := Tryd.func66.trans (congrArg some (by kernel_rfl))
  f260 := Tryd.func81.trans (congrArg some (by kernel_rfl))
  f266 := Tryd.func70.trans (congrArg some (by kernel_rfl))
  f267 := Tryd.func84.trans (congrArg some (by kernel_rfl))
  f276 := Tryd.func71.trans (congrArg some (by kernel_rfl))
  f277 := Tryd.func92.trans (congrArg some (by kernel_rfl))
  f314 := Tryd.func97.trans (congrArg some (by kernel_rfl))
  t0 := Tryd.underlying0
  a0 := Tryd.isAgg0
  z0 := Tryd.sizeOf0
  v0 := Tryd.zeroValue0
  t3 := Tryd.underlying3
  a3 := Tryd.isAgg3
  z3 := Tryd.sizeOf3
  v3 := Tryd.zeroValue3
  t4 := Tryd.underlying4
  a4 := Tryd.isAgg4
  z4 := Tryd.sizeOf4
  v4 := Tryd.zeroValue4
  t5 := Tryd.underlying5
  a5 := Tryd.isAgg5
  z5 := Tryd.sizeOf5
  v5 := Tryd.zeroValue5
  t9 := Tryd.underlying9
  a9 := Tryd.isAgg9
  z9 := Tryd.sizeOf9
  v9 := Tryd.zeroValue9
  t20 := Tryd.underlying20
  a20 := Tryd.isAgg20
  z20 := Tryd.sizeOf20
  v20 := Tryd.zeroValue20
  t21 := Tryd.underlying21
  a21 := Tryd.isAgg21
  z21 := Tryd.sizeOf21
  v21 := Tryd.zeroValue21
  t37 := Tryd.underlying52
  a37 := Tryd.isAgg52
  z37 := Tryd.sizeOf52
  v37 := Tryd.zeroValue52
  t46 := Tryd.underlying84
  a46 := Tryd.isAgg84
  z46 := Tryd.sizeOf84
  v46 := Tryd.zeroValue84
  t51 := Tryd.underlying104
  a51 := Tryd.isAgg104
  z51 := Tryd.sizeOf104
  v51 := Tryd.zeroValue104
  t70 := Tryd.underlying51
  a70 := Tryd.isAgg51
  z70 := Tryd.sizeOf51
  v70 := Tryd.zeroValue51
  t72 := Tryd.underlying54
  a72 := Tryd.isAgg54
  z72 := Tryd.sizeOf54
  v72 := Tryd.zeroValue54
  t75 := Tryd.underlying57
  a75 := Tryd.isAgg57
  z75 := Tryd.sizeOf57
  v75 := Tryd.zeroValue57
  t76 := Tryd.underlying58
  a76 := Tryd.isAgg58
  z76 := Tryd.sizeOf58
  v76 := Tryd.zeroValue58
  t105 := Tryd.underlying98
  a105 := Tryd.isAgg98
  z105 := Tryd.sizeOf98
  v105 := Tryd.zeroValue98
  t119 := Tryd.underlying129
  a119 := Tryd.isAgg129
  z119 := Tryd.sizeOf129
  t127 := Tryd.underlying97
  a127 := Tryd.isAgg97
  z127 := Tryd.sizeOf97
  v127 := Tryd.zeroValue97
  t138 := Tryd.underlying131
  a138 := Tryd.isAgg131
  z138 := Tryd.sizeOf131
  v138 := Tryd.zeroValue131
  t139 := Tryd.underlying132
  a139 := Tryd.isAgg132
  z139 := Tryd.sizeOf132
  v139 := Tryd.zeroValue132
  t146 := Tryd.underlying105
  a146 := Tryd.isAgg105
  z146 := Tryd.sizeOf105
  v146 := Tryd.zeroValue105
  t164 := Tryd.underlying113
  a164 := Tryd.isAgg113
  z164 := Tryd.sizeOf113
  v164 := Tryd.zeroValue113
  g1 := by kernel_rfl
  g3 := by kernel_rfl
  g4 := by kernel_rfl }
theorem Tryd.Builder_Extra_155 : Builder.Extra Tryd.prog Tryd.lays155_ren := {
  sizeBuilder := by kernel_rfl
  liesBuilder := by kernel_rfl
  t5 := Tryd.underlying5
  a5 := Tryd.isAgg5
  z5 := Tryd.sizeOf5
  v5 := Tryd.zeroValue5
  infoByte := by kernel_rfl
  cellsByte := by kernel_rfl
  sizeByte := by kernel_rfl
  neB5 := by decide }
theorem Tryd.strings_ReplaceAll (s old new : ByteArray) (m : Int) (w : World) (hs : s.size < 4294967281) (hm : w.cell? ⟨0, 0, none⟩ = some (.int .i64 m)) (h1 : 1 ≤ old.size) (hlen : s.size + Lib.countB s old * new.size ≤ 140737488355328) :
    Calls Tryd.prog 17 #[.string s, .string old, .string new] w fun e w' =>
      e = .returned (.string ⟨(Lib.replaceAll s.data.toList old.data.toList new.data.toList).toArray⟩) ∧ Below w.heap.size w w' := Any.strings_ReplaceAll Tryd.lays155 Tryd.Builder_Extra_155 s old new m w hs hm h1 hlen
def Tryd.lays150_ren : Go.Shelf.Ren := ⟨fun | 150 => 34 | 153 => 57 | 152 => 79 | 226 => 80 | 227 => 46 | 228 => 67 | 137 => 25 | 119 => 96 | 224 => 83 | 225 => 82 | 217 => 51 | 266 => 70 | n => n, fun | 9 => 9 | 4 => 4 | 3 => 3 | 5 => 5 | 21 => 21 | 117 => 91 | 116 => 90 | 0 => 0 | 46 => 84 | 124 => 94 | n => n, fun | n => n⟩
theorem Tryd.lays150 : Go.Proofs.Lays.n150 Tryd.prog Tryd.lays150_ren := {
  mixed := by kernel_rfl
  f119 := Tryd.func96.trans (congrArg some (by kernel_rfl))
  f137 := Tryd.func25.trans (congrArg some (by kernel_rfl))
  f150 := Tryd.func34.trans (congrArg some (by kernel_rfl))
  f152 := Tryd.func79.trans (congrArg some (by kernel_rfl))
  f153 := Tryd.func57.trans (congrArg some (by kernel_rfl))
  f217 := Tryd.func51.trans (congrArg some (by kernel_rfl))
  f224 := Tryd.func83.trans (congrArg some (by kernel_rfl))
  f225 := Tryd.func82.trans (congrArg some (by kernel_rfl))
  f226 := Tryd.func80.trans (congrArg some (by kernel_rfl))
  f227 := Tryd.func46.trans (congrArg some (by kernel_rfl))
  f228 := Tryd.func67.trans (congrArg some (by kernel_rfl))
  f266 := Tryd.func70.trans (congrArg some (by kernel_rfl))
  t0 := Tryd.underlying0
  a0 := Tryd.isAgg0
  z0 := Tryd.sizeOf0
  v0 := Tryd.zeroValue0
  t3 := Tryd.underlying3
  a3 := Tryd.isAgg3
  z3 := Tryd.sizeOf3
  v3 := Tryd.zeroValue3
  t4 := Tryd.underlying4
  a4 := Tryd.isAgg4
  z4 := Tryd.sizeOf4
  v4 := Tryd.zeroValue4
  t5 := Tryd.underlying5
  a5 := Tryd.isAgg5
  z5 := Tryd.sizeOf5
  v5 := Tryd.zeroValue5
  t9 := Tryd.underlying9
  a9 := Tryd.isAgg9
  z9 := Tryd.sizeOf9
  v9 := Tryd.zeroValue9
  t21 := Tryd.underlying21
  a21 := Tryd.isAgg21
  z21 := Tryd.sizeOf21
  v21 := Tryd.zeroValue21
  t46 := Tryd.underlying84
  a46 := Tryd.isAgg84
  z46 := Tryd.sizeOf84
  v46 := Tryd.zeroValue84
  t116 := Tryd.underlying90
  a116 := Tryd.isAgg90
  z116 := Tryd.sizeOf90
  t117 := Tryd.underlying91
  a117 := Tryd.isAgg91
  z117 := Tryd.sizeOf91
  v117 := Tryd.zeroValue91
  t124 := Tryd.underlying94
  a124 := Tryd.isAgg94
  z124 := Tryd.sizeOf94
  v124 := Tryd.zeroValue94 }
theorem Tryd.strings_ContainsAny_laid (s chars : ByteArray) (w : World) (hs : s.size < 4294967281) (hcs : chars.size < 4294967281) (has : ∀ (j : Nat) b, s.data.toList[j]? = some b → b.toNat < 128) (hac : ∀ (j : Nat) b, chars.data.toList[j]? = some b → b.toNat < 128) :
    Calls Tryd.prog 34 #[.string s, .string chars] w fun e w' => e = .returned (.bool (Lib.containsAny s.data.toList chars.data.toList)) ∧ Below w.heap.size w w' := Any.strings_ContainsAny_laid Tryd.lays150 (by kernel_rfl) s chars w hs hcs has hac
def Tryd.lays105_ren : Go.Shelf.Ren := ⟨fun | 105 => 21 | 212 => 41 | 99 => 27 | 165 => 42 | 166 => 26 | 170 => 31 | 169 => 32 | 263 => 64 | 264 => 65 | 206 => 53 | 240 => 52 | 241 => 66 | 276 => 71 | 277 => 92 | n => n, fun | 9 => 9 | 3 => 3 | 4 => 4 | 20 => 20 | 0 => 0 | 46 => 84 | 109 => 85 | 5 => 5 | 72 => 54 | 76 => 58 | 51 => 104 | 146 => 105 | 53 => 107 | 148 => 108 | 70 => 51 | 37 => 52 | 75 => 57 | 127 => 97 | 164 => 113 | 80 => 65 | n => n, fun | n => n⟩
theorem Tryd.strings_IndexFunc_grows (g : Nat) (lb : Array Value) (eg : ∀ args w, (callFunc g args).run Tryd.prog w = .ok (.enter g args) w) (p : Nat → Bool) (s : ByteArray) (w : World) (hp : PredGrows Tryd.prog g lb p w) :
    Calls Tryd.prog 49 #[.string s, .func (.func g) #[] lb] w fun e w' => e = .returned (.int .i64 (Lib.idxFunc p true s)) ∧ Below w.heap.size w w' := Any.strings_IndexFunc_grows Tryd.laysGw15 g lb eg p s w hp
end Go.Proofs

namespace Go.GV
open Go.RowKit Go.MapKept
theorem kp_mx {S : List Nat} {w : World} {κ : Type} {f : κ → Value} {b : Nat} {l : List (κ × Value)} (h : Kp S w (Ent.at (Ent.mp f b l))) : ∃ es clock, Holds' f es l ∧ Born es clock ∧ Kp S w fun w => w.heap[b]? = some (.map es clock) := by
  obtain ⟨es, clock, h1, h2, h3⟩ := mp_at h.now
  refine ⟨es, clock, h2, h3, ?_⟩
  obtain ⟨B, k1, k2⟩ := h
  have hlt : b < w.heap.size := (Array.getElem?_eq_some_iff.1 h1).1
  by_cases hb : B b
  · exact ⟨B, k1, fun w' hw => (hw b hb).trans h1⟩
  · exfalso
    obtain ⟨es2, c2, q1, _, _⟩ := mp_at (k2 { w with heap := w.heap.setIfInBounds b (.deferred none) } fun x hx => by
      show (w.heap.setIfInBounds b _)[x]? = _
      rw [Array.getElem?_setIfInBounds, if_neg (fun e : b = x => hb (by rw [e]; exact hx))])
    have q1 : (w.heap.setIfInBounds b (.deferred none))[b]? = some (.map es2 c2) := q1
    rw [Array.getElem?_setIfInBounds, if_pos rfl, if_pos hlt] at q1
    cases q1
section
variable {E : Env} {P : Program} {x : Operand} {dst : Option Nat} {t ty : TypeId} {pos : String} {af : Array Edge} {g : Option (Nat × Bool)} {κ : Type}
theorem O_rangeR {S : List Nat} {w0 : World} {L : List Ent} {K : Value → List Ent → Prop} {f : κ → Value} {b : Nat} {l : List (κ × Value)} {kt et : TypeId} (h : Kp S w0 (Ent.at (Ent.mp f b l))) (hx : ev E x = .map (some b)) (ht : P.underlying t = some (.map kt et))
    (k : ∀ es clock it, Born es clock → Kp S w0 (fun w => w.heap[b]? = some (.map es clock)) → K (.pointer (some ⟨it, 0, none⟩)) (Ent.rng f it b es clock l none :: L)) : OpJ P S w0 E L ⟨dst, .range t x, ty, pos, af, g⟩ K := by
  intro w hS
  obtain ⟨es, clock, h1, h2, h3⟩ := kp_mx h
  refine ⟨_, _, _, .inl ?_, hS.alloc (.mapIter (some b) clock #[] clock) (Ent.rng f w.heap.size b es clock l none) rfl ⟨#[], rfl, by rw [leftOf_none]; exact h1, fun p hp => by cases hp⟩, k es clock w.heap.size h2 h3⟩
  simp only [execOp, hx]
  show Sem.run P (do let v ← Instr.range t (.map (some b)); pure (Next.value v)) w = _
  rw [Sem.run_bind, run_range_map w t kt et b es clock ht (h3.held hS)]; rfl
theorem O_nextR {α : Type} {S : List Nat} {w0 : World} {L : List Ent} {K : Value → List Ent → Prop} (j : Nat) {f : κ → Value} (mc : α → κ × Value) {it bm clock : Nat} {es : Array MapEntry} {left : List α} {cur : Option (κ × Value)} (hx : ev E x = .pointer (some ⟨it, 0, none⟩)) (hj : L[j]? = some (Ent.rng f it bm es clock (left.map mc) cur)) (hi : Kp S w0 fun w => w.heap[bm]? = some (.map es clock)) (hB : Born es clock)
    (h0 : left = [] → K (.tuple #[vB false]) L) (h1 : ∀ a n, left[n]? = some a → K (.tuple #[vB true, f (mc a).1, (mc a).2]) (L.set j (Ent.rng f it bm es clock ((left.eraseIdx n).map mc) (some (mc a))))) : OpJ P S w0 E L ⟨dst, .next x false, ty, pos, af, g⟩ K := by
  intro w hS
  have hat := hS.mem hj
  obtain ⟨seen, q1, q2, q3⟩ : (Ent.rng f it bm es clock (left.map mc) cur).prop w.heap[it]? := by simpa [Ent.at, Ent.rng] using hat.1
  have hm : w.heap[bm]? = some (.map es clock) := hi.held hS
  rcases run_next_at (P := P) w ty it bm clock seen es q1 hm hB with ⟨r1, r2⟩ | ⟨n, hn, w1, hal, r2⟩
  · refine ⟨_, _, w, .inl ?_, hS, h0 ?_⟩
    · simp only [execOp, hx]
      show Sem.run P (do let v ← Instr.next _ false ty; pure (Next.value v)) w = _
      rw [Sem.run_bind, r2]; rfl
    · have h2 := congrArg List.length q2
      simp only [List.length_map, Array.length_toList] at h2
      exact List.length_eq_zero_iff.1 (by omega)
  · have hl : n < left.length := by
      have h2 := congrArg List.length q2
      simp only [List.length_map, Array.length_toList] at h2
      omega
    have hp : ((leftOf es seen)[n].key, (leftOf es seen)[n].val) = (f (mc left[n]).1, (mc left[n]).2) := by
      have h2 : ((leftOf es seen).toList.map (fun e => (e.key, e.val)))[n]? = ((left.map mc).map (fun p => (f p.1, p.2)))[n]? := by rw [q2]
      simpa [List.getElem?_eq_getElem, hn, hl] using h2
    simp only [Prod.mk.injEq] at hp
    refine ⟨.tuple #[vB true, f (mc left[n]).1, (mc left[n]).2], L.set j (Ent.rng f it bm es clock ((left.eraseIdx n).map mc) (some (mc left[n]))), { w1 with heap := w1.heap.setIfInBounds it (.mapIter (some bm) clock (seen.push (leftOf es seen)[n].born) clock) }, .inl ?_, ?_, h1 left[n] n (List.getElem?_eq_getElem hl)⟩
    · simp only [execOp, hx]
      show Sem.run P (do let v ← Instr.next _ false ty; pure (Next.value v)) w = _
      rw [Sem.run_bind, r2, hp.1, hp.2]; rfl
    · refine hS.writeAt (w' := { w1 with heap := w1.heap.setIfInBounds it (.mapIter (some bm) clock (seen.push (leftOf es seen)[n].born) clock) }) hj it rfl rfl ?_ ?_
      · obtain ⟨a1, a2, a3, a4⟩ := hal
        refine ⟨a2, a4, a3, by simp [a1], fun k hk hkn => ?_⟩
        have hkn' : it ≠ k := fun e => hkn (by simp [e])
        simp [a1, hkn']
      · refine ⟨seen.push (leftOf es seen)[n].born, ?_, ?_, ?_⟩
        · have : it < w1.heap.size := by
            rw [hal.1]; exact (Array.getElem?_eq_some_iff.1 q1).1
          simp [this]
        · rw [leftOf_push es clock hB seen n hn, map_eraseIdx, q2, ← map_eraseIdx, ← map_eraseIdx]
        · intro p hp2
          cases hp2
          refine ⟨(leftOf es seen)[n], ?_, by simp, hp.1, hp.2⟩
          have : (leftOf es seen)[n] ∈ (leftOf es seen).toList := by simp
          unfold leftOf at this ⊢
          rw [Array.toList_filter] at this
          exact (List.mem_filter.1 this).1
theorem O_entryR {S : List Nat} {w0 : World} {L : List Ent} (j : Nat) {f : κ → Value} {it bm clock : Nat} {es : Array MapEntry} {left : List (κ × Value)} {p : κ × Value} (hx : ev E x = .pointer (some ⟨it, 0, none⟩)) (hj : L[j]? = some (Ent.rng f it bm es clock left (some p))) (hi : Kp S w0 fun w => w.heap[bm]? = some (.map es clock)) (hB : Born es clock) :
    ∀ w, St S w0 w L → (execOp (ev E) ⟨dst, .entry x, ty, pos, af, g⟩).run P w = .ok (.value (.tuple #[f p.1, p.2])) w := by
  intro w hS
  have hat := hS.mem hj
  obtain ⟨seen, q1, q2, q3⟩ : (Ent.rng f it bm es clock left (some p)).prop w.heap[it]? := by simpa [Ent.at, Ent.rng] using hat.1
  have hm : w.heap[bm]? = some (.map es clock) := hi.held hS
  obtain ⟨e, he, h1, h2, h3⟩ := q3 p rfl
  have hf : es.find? (·.born == e.born) = some e := by rw [← Array.find?_toList]; exact find_born e es.toList hB.1 he
  have hr : (Instr.entry (.pointer (some ⟨it, 0, none⟩))).run P w = .ok (.tuple #[f p.1, p.2]) w := by
    simp only [Instr.entry, getObj, Sem.run_bind, Sem.run, q1, hm, Result.andThen, h1, bne_self_eq_false, Bool.false_eq_true, if_false, hf, h2, h3]
    rfl
  simp only [execOp, hx]
  show Sem.run P (do let v ← Instr.entry (.pointer (some ⟨it, 0, none⟩)); pure (Next.value v)) w = _
  rw [Sem.run_bind, hr]; rfl
end
section
variable {E : Env} {P : Program} {x y : Operand} {dst : Option Nat} {t t' ty : TypeId} {pos : String} {af : Array Edge} {g : Option (Nat × Bool)} {κ : Type} {w : World}
theorem x_eql_map {b : Nat} {kt et : TypeId} (hx : ev E x = .map (some b)) (hy : ev E y = .map none) (ht : P.underlying t = some (.map kt et)) : (execOp (ev E) ⟨dst, .binOp .eql t x y t', ty, pos, af, g⟩).run P w = .ok (.value (vB false)) w := by
  have hb := Go.Proofs.run_eql_map_nil_sl (P := P) w t kt et (some b) ht
  simp only [execOp, hx, hy]
  show Sem.run P (do let v ← binOp .eql t (.map (some b)) (.map none); pure (Next.value v)) w = _
  rw [Sem.run_bind, hb]; rfl
theorem x_assert_map {u kt et : TypeId} {v : Value} (hx : ev E x = .iface t v) (ht : P.underlying t = some (.map kt et)) : (execOp (ev E) ⟨dst, .typeAssert x u t false, ty, pos, af, g⟩).run P w = .ok (.value v) w := by
  have hb := Go.Proofs.run_typeAssert_map_sl (P := P) w t u kt et v ht
  simp only [execOp, hx]
  show Sem.run P (do let v ← Instr.typeAssert (.iface t v) u t false; pure (Next.value v)) w = _
  rw [Sem.run_bind, hb]; rfl
end
end Go.GV
