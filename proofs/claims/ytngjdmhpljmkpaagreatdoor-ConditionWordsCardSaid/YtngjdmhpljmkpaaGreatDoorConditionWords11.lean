/- GvKp, Ok40, Pw40l in one text. -/
import Derived.Test.YtngjdmhpljmkpaaGreatDoorConditionWords5
import Derived.Test.YtngjdmhpljmkpaaGreatDoorConditionWords10
import Derived.Test.YtngjdmhpljmkpaaGreatDoorConditionWords3
import Derived.Test.YtngjdmhpljmkpaaGreatDoorConditionWords8
set_option linter.unusedVariables false
set_option linter.unusedSimpArgs false
namespace Go.GV
open Go.RowKit
def Kp (S : List Nat) (w : World) (C : World → Prop) : Prop :=
  ∃ B : Nat → Prop, (∀ b, B b → b < w.heap.size ∧ b ∉ S) ∧ ∀ w' : World, (∀ b, B b → w'.heap[b]? = w.heap[b]?) → C w'
section
variable {S S' Sc F : List Nat} {w0 w : World} {C D : World → Prop} {L Lc Lr : List Ent}
theorem Kp.now (h : Kp S w C) : C w := by obtain ⟨B, _, h⟩ := h; exact h w fun _ _ => rfl
theorem Kp.imp (h : Kp S w C) (k : ∀ w, C w → D w) : Kp S w D := by
  obtain ⟨B, h1, h2⟩ := h; exact ⟨B, h1, fun w' hw => k _ (h2 w' hw)⟩
theorem Kp.pure {p : Prop} (h : p) : Kp S w fun _ => p := ⟨fun _ => False, fun _ h => h.elim, fun _ _ => h⟩
theorem Kp.and (h : Kp S w C) (k : Kp S w D) : Kp S w fun w => C w ∧ D w := by
  obtain ⟨B, h1, h2⟩ := h; obtain ⟨B', k1, k2⟩ := k
  exact ⟨fun b => B b ∨ B' b, fun b hb => hb.elim (h1 b) (k1 b), fun w' hw => ⟨h2 w' fun b hb => hw b (.inl hb), k2 w' fun b hb => hw b (.inr hb)⟩⟩
theorem Kp.all {ι : Type} {C : ι → World → Prop} (h : ∀ i, Kp S w (C i)) : Kp S w fun w => ∀ i, C i w :=
  ⟨fun b => ∃ i, (h i).choose b, fun b ⟨i, hi⟩ => (h i).choose_spec.1 b hi, fun w' hw i => (h i).choose_spec.2 w' fun b hb => hw b ⟨i, hb⟩⟩
theorem Kp.mono (h : Kp S w C) (hs : ∀ b ∈ S', b ∈ S) : Kp S' w C := by
  obtain ⟨B, h1, h2⟩ := h; exact ⟨B, fun b hb => ⟨(h1 b hb).1, fun hh => (h1 b hb).2 (hs _ hh)⟩, h2⟩
theorem Kp.no (h : Kp S w C) : Kp [] w C := h.mono fun _ hb => by cases hb
theorem Kp.fromF (h : Kp (S ++ F) w C) : Kp S w C := h.mono fun _ hb => List.mem_append.2 (.inl hb)
theorem Kp.freshF (h : Kp (S ++ F) w C) : Kp F w C := h.mono fun _ hb => List.mem_append.2 (.inr hb)
theorem Kp.turn (h : Kp S w0 C) (hf : Fr S w0 w) (hn : ∀ b, b < w0.heap.size → b ∉ S → b ∉ Sc) : Kp Sc w C := by
  obtain ⟨B, h1, h2⟩ := h
  refine ⟨B, fun b hb => ⟨Nat.lt_of_lt_of_le (h1 b hb).1 hf.size, hn b (h1 b hb).1 (h1 b hb).2⟩, fun w' hw => h2 w' fun b hb => (hw b hb).trans (hf.block b (h1 b hb).1 (h1 b hb).2)⟩
theorem Kp.on (h : Kp S w0 C) (hS : St S w0 w (Lc ++ Lr)) (hSc : ∀ b ∈ Sc, ∃ e ∈ Lc, e.own = some b) : Kp Sc w C := by
  refine h.turn hS.fr fun b hb hn hin => ?_
  obtain ⟨e, he, ho⟩ := hSc b hin
  rcases hS.own e (by simp [he]) _ ho with h1 | h1
  · exact hn h1
  · omega
theorem Kp.on0 (h : Kp S w0 C) (hS : St S w0 w L) : Kp [] w C := h.on (Lc := []) (Lr := L) hS (by simp)
theorem Kp.again (h : Kp S w0 C) (hS : St S w0 w L) : Kp (Lown L) w C :=
  h.on (Lc := L) (Lr := []) (by rw [List.append_nil]; exact hS) lown_mem
theorem Kp.againF (h : Kp (S ++ F) w0 C) (hS : St S w0 w L) : Kp (Lown L ++ F) w C := by
  obtain ⟨B, h1, h2⟩ := h
  refine ⟨B, fun b hb => ?_, fun w' hw => h2 w' fun b hb => (hw b hb).trans (hS.fr.block b (h1 b hb).1 fun hh => (h1 b hb).2 (List.mem_append.2 (.inl hh)))⟩
  have hn := h1 b hb
  refine ⟨Nat.lt_of_lt_of_le hn.1 hS.fr.size, fun hh => ?_⟩
  rcases List.mem_append.1 hh with hh | hh
  · obtain ⟨e, he, ho⟩ := lown_mem b hh
    rcases hS.own e he _ ho with h3 | h3
    · exact hn.2 (List.mem_append.2 (.inl h3))
    · omega
  · exact hn.2 (List.mem_append.2 (.inr hh))
theorem Kp.old {S2 : List Nat} {w2 : World} (h : Kp S w0 C) (ho : Old S w0 S2 w2) : Kp S2 w2 C := by
  obtain ⟨B, h1, h2⟩ := h
  exact ⟨B, fun b hb => ⟨(ho b (h1 b hb).1 (h1 b hb).2).1, (ho b (h1 b hb).1 (h1 b hb).2).2.1⟩, fun w' hw => h2 w' fun b hb => (hw b hb).trans (ho b (h1 b hb).1 (h1 b hb).2).2.2⟩
theorem Kp.held (h : Kp S w0 C) (hS : St S w0 w L) : C w := (h.on0 hS).now
end
section
variable {S : List Nat} {w : World} {A : Option Addr} {cs : List Value}
theorem cell_of {w w' : World} {a : Addr} (h : w'.heap[a.block]? = w.heap[a.block]?) : w'.cell? a = w.cell? a := World.cell?_of_block h
theorem RO.kp (h : RO S w A cs) : Kp S w fun w => Cells w A cs := by
  refine ⟨fun b => ∃ (j : Nat) (v : Value) (a : Addr), cs[j]? = some v ∧ A = some a ∧ a.block = b, ?_, ?_⟩
  · rintro b ⟨j, v, a, hv, rfl, rfl⟩
    obtain ⟨a', e, hb, hn, _⟩ := h j v hv
    injection e with e; subst e
    exact ⟨hb, hn⟩
  · intro w' hw j v hv
    obtain ⟨a, rfl, hb, hn, hc⟩ := h j v hv
    refine ⟨a, rfl, ?_⟩
    rw [← hc]
    exact World.cell?_of_block (by rw [add_block]; exact hw _ ⟨j, v, a, hv, rfl, rfl⟩)
theorem cell_map {w : World} {a : Addr} {es : Array MapEntry} {c : Nat} (h : w.heap[a.block]? = some (.map es c)) : w.cell? a = none := by
  unfold World.cell?; rw [h]
theorem cell_none {w : World} {a : Addr} (h : w.heap[a.block]? = none) : w.cell? a = none := by
  unfold World.cell?; rw [h]
theorem Kp.ro (h : Kp S w fun w => Cells w A cs) : RO S w A cs := by
  obtain ⟨B, h1, h2⟩ := h
  intro j v hv
  obtain ⟨a, rfl, hc⟩ := h2 w (fun _ _ => rfl) j v hv
  by_cases hb : B a.block
  · exact ⟨a, rfl, (h1 _ hb).1, (h1 _ hb).2, hc⟩
  · exfalso
    have hb2 : B (a.add j).block → False := by rw [add_block]; exact hb
    obtain ⟨a2, e, hc2⟩ := h2 { w with heap := w.heap.setIfInBounds (a.add j).block (.map #[] 0) } (fun b hB => by
      show (w.heap.setIfInBounds (a.add j).block _)[b]? = _
      rw [Array.getElem?_setIfInBounds, if_neg (fun e : (a.add j).block = b => hb2 (by rw [e]; exact hB))]) j v hv
    injection e with e; subst e
    by_cases hlt : (a.add j).block < w.heap.size
    · rw [cell_map (es := #[]) (c := 0) (by show (w.heap.setIfInBounds (a.add j).block _)[(a.add j).block]? = _; rw [Array.getElem?_setIfInBounds, if_pos rfl, if_pos hlt])] at hc2; cases hc2
    · rw [cell_none (by show (w.heap.setIfInBounds (a.add j).block _)[(a.add j).block]? = _; rw [Array.getElem?_setIfInBounds, if_pos rfl, if_neg hlt])] at hc2; cases hc2
end
section
variable {S : List Nat} {w00 w0 w : World} {C : World → Prop} {Lc Lr : List Ent}
end
section
variable {E : Env} {P : Program} {x y z : Operand} {dst : Option Nat} {t t' ty u : TypeId} {pos : String} {af : Array Edge} {g : Option (Nat × Bool)} {κ : Type} [DecidableEq κ]
end
def okL {α : Type} [Inhabited α] (ok : α → World → Prop) (l : List α) (w : World) : Prop := ∀ i : Nat, ok (l.getD i default) w
section
variable {α : Type} [Inhabited α] {ok : α → World → Prop} {S : List Nat} {w : World} {l m : List α}
theorem okL_at (h : Kp S w (okL ok l)) (i : Nat) : Kp S w (ok (l.getD i default)) := h.imp fun _ k => k i
theorem okL_snoc {a : α} (h : Kp S w (okL ok l)) (k : Kp S w (ok a)) : Kp S w (okL ok (l ++ [a])) := Kp.all fun i => by
  rcases Nat.lt_or_ge i l.length with hi | hi
  · have := okL_at h i; rwa [List.getD_eq_getElem?_getD, ← List.getElem?_append_left hi, ← List.getD_eq_getElem?_getD] at this
  · rcases Nat.eq_or_lt_of_le hi with rfl | hi
    · rw [List.getD_eq_getElem?_getD, List.getElem?_append_right (Nat.le_refl _), Nat.sub_self]; exact k
    · have := okL_at h i
      rw [List.getD_eq_getElem?_getD, List.getElem?_eq_none (by omega)] at this
      rw [List.getD_eq_getElem?_getD, List.getElem?_eq_none (by rw [List.length_append, List.length_singleton]; omega)]
      exact this
theorem okL_take (h : Kp S w (okL ok l)) (n : Nat) : Kp S w (okL ok (l.take n)) := Kp.all fun i => by
  have h1 := okL_at h i
  rcases Nat.lt_or_ge i n with hi | hi
  · rwa [List.getD_eq_getElem?_getD, ← List.getElem?_take_of_lt hi, ← List.getD_eq_getElem?_getD] at h1
  · have h2 := okL_at h l.length
    rw [List.getD_eq_getElem?_getD, List.getElem?_eq_none (Nat.le_refl _)] at h2
    rw [List.getD_eq_getElem?_getD, List.getElem?_eq_none (by rw [List.length_take]; omega)]; exact h2
theorem okL_set {a : α} (h : Kp S w (okL ok l)) (k : Kp S w (ok a)) (n : Nat) : Kp S w (okL ok (l.set n a)) := Kp.all fun i => by
  have h1 := okL_at h i
  by_cases hi : n = i
  · subst hi
    rcases Nat.lt_or_ge n l.length with hl | hl
    · rw [List.getD_eq_getElem?_getD, List.getElem?_set_self hl]; exact k
    · rw [List.set_eq_of_length_le hl]; exact h1
  · rwa [List.getD_eq_getElem?_getD, ← List.getElem?_set_ne hi, ← List.getD_eq_getElem?_getD] at h1
end
theorem okL_nil {α : Type} [Inhabited α] {ok : α → World → Prop} {S : List Nat} {w : World} (h : Kp S w (ok default)) : Kp S w (okL ok ([] : List α)) := Kp.all fun _ => h
theorem kp_cnil {S : List Nat} {w : World} {A : Option Addr} : Kp S w fun w => Cells w A [] := Kp.imp (Kp.pure trivial) fun _ _ j v h => by simp at h
section
variable {S Sc : List Nat} {w0 w wc wb w00 : World} {L L' Lc Lr : List Ent} {C : World → Prop}
end
def kvS (p : Bytes × Bytes) : Bytes × Value := (p.1, vS p.2)
def putK {α : Type} : List (Bytes × α) → Bytes → α → List (Bytes × α)
  | [], k, v => [(k, v)]
  | (a, u) :: l, k, v => if k = a then (k, v) :: l else (a, u) :: putK l k v
def lookK {α : Type} (l : List (Bytes × α)) (k : Bytes) : Option α := (l.find? fun p => p.1 = k).map (·.2)
end Go.GV

namespace Go.Proofs.YtngjdmhpljmkpaaGreatDoor
open Go.GV
def Txt.ok (e : Txt) (w : World) : Prop := Cells w e.wordsA (e.words.map vS)
end Go.Proofs.YtngjdmhpljmkpaaGreatDoor

namespace Go.Proofs.YtngjdmhpljmkpaaGreatDoor
open Go.GV
namespace R40
def wrapV (ws : List Bytes) (st least : Int) : List Bytes := if least ≤ st then ws else [wLP] ++ ws ++ [wRP]
theorem wrap_keep {ws : List Bytes} {st least : Int} (h : least ≤ st) : ws = wrapV ws st least := (if_pos h).symm
theorem wrap_new {ws : List Bytes} {st least : Int} (h : ¬ least ≤ st) : ([wLP] ++ ws) ++ [wRP] = wrapV ws st least := (if_neg h).symm
theorem wrap_len (ws : List Bytes) (st least : Int) : (wrapV ws st least).length ≤ ws.length + 2 := by
  unfold wrapV; split <;> simp
theorem words_wrap (x : Node) (n : Nat) : wordsV x n = wrapV (wordsV x 0) (strength x) n := by
  have hi : ∀ (s : Nat) (l : List Bytes), inP (decide (s < n)) l = wrapV (inP (decide (s < 0)) l) s n := fun s l => by
    have e : inP (decide (s < 0)) l = l := by rw [decide_eq_false (Nat.not_lt_zero _)]; rfl
    rw [e]
    unfold wrapV inP
    by_cases h : s < n
    · rw [if_pos (decide_eq_true h), if_neg (by omega)]
    · rw [if_neg (by rw [decide_eq_false h]; decide), if_pos (by omega)]
  cases x with
  | leaf t i => rw [wordsV, wordsV]; exact hi 2 _
  | neg x => rw [wordsV, wordsV]; exact hi 2 _
  | pair b x y => rw [wordsV, wordsV]; exact hi (if b = true then 1 else 0) _
def tx (e : Txt) : List Bytes × Int := (e.words, e.strength)
def tw (x : Node) : List Bytes × Int := (wordsV x 0, (strength x : Int))
def FmJ (ts : List Test) (k : Nat) (l : List Txt) : Prop := ∃ st, treeG stepV k st (ts.drop k) = treeG stepV 0 [] ts ∧ l.map tx = st.map tw ∧ Inv stepV 0 st ∧ (posts st).length = k
section
variable {ts : List Test} {k : Nat} {l : List Txt} {A : Option Addr} {C : Nat}
theorem FmJ.start : FmJ ts 0 [] := ⟨[], rfl, rfl, trivial, rfl⟩
theorem treeN_ne (h0 : ts ≠ []) (h : validV stepV ts = true) : ∃ x, treeG stepV 0 [] ts = some [x] ∧ treeV stepV ts = some x := by
  unfold validV at h
  rw [decide_eq_false h0, Bool.or_false, ← valid_tree] at h
  unfold treeV at *
  by_cases hl : 32 < ts.length
  · rw [if_pos hl] at h; cases h
  · rw [if_neg hl] at h ⊢
    unfold one at *
    split at h
    · rename_i x hx; rw [hx]; exact ⟨x, rfl, rfl⟩
    · cases h
theorem FmJ.go (h : FmJ ts k l) (hk : k < ts.length) (hv : validV stepV ts = true) : ∃ st st', l.map tx = st.map tw ∧ stepT stepV st k (ts.getD k default) = some st' ∧ treeG stepV (k + 1) st' (ts.drop (k + 1)) = treeG stepV 0 [] ts ∧ Inv stepV 0 st' ∧ (posts st').length = k + 1 := by
  obtain ⟨st, h1, h2, h3, h4⟩ := h
  obtain ⟨x, hx, _⟩ := treeN_ne (fun e => by rw [e] at hk; simp at hk) hv
  rw [R44.drop_cons (d := default) hk, treeG] at h1
  cases hs : stepT stepV st k (ts.getD k default) with
  | none => rw [hs, hx] at h1; cases h1
  | some l' =>
    rw [hs] at h1
    obtain ⟨h5, h6⟩ := step_inv (by rw [h4]; exact hs) h3
    exact ⟨st, l', h2, hs, h1, h5, by rw [h6, List.length_append, h4]; rfl⟩
theorem tx_len {st : List Node} (h : l.map tx = st.map tw) : l.length = st.length := by
  have := congrArg List.length h; rwa [List.length_map, List.length_map] at this
theorem tx_at {st : List Node} (h : l.map tx = st.map tw) {i : Nat} (hi : i < l.length) : (l.getD i default).words = wordsV (st.getD i default) 0 ∧ (l.getD i default).strength = (strength (st.getD i default) : Int) := by
  have e : (l.map tx).getD i default = (st.map tw).getD i default := by rw [h]
  rw [map_getD hi, map_getD (by rw [← tx_len h]; exact hi)] at e
  exact ⟨congrArg Prod.fst e, congrArg Prod.snd e⟩
theorem FmJ.few (h : FmJ ts k l) (hk : k < ts.length) (hv : validV stepV ts = true) : ((ts.getD k default).Kind = 4 → 1 ≤ l.length) ∧ ((ts.getD k default).Kind = 5 ∨ (ts.getD k default).Kind = 6 → 2 ≤ l.length) ∧ (¬ (ts.getD k default).Kind = 4 → ¬ (ts.getD k default).Kind = 5 → ¬ (ts.getD k default).Kind = 6 → leafOk stepV (ts.getD k default) = true) := by
  obtain ⟨st, l', hb, hs, _⟩ := h.go hk hv
  have hl := tx_len hb
  unfold stepT at hs
  split at hs
  · rename_i h4; rw [h4.1]; exact ⟨fun _ => by omega, fun h => absurd h (by decide), fun h => absurd rfl h⟩
  · split at hs
    · rename_i h5
      refine ⟨fun h => ?_, fun _ => by omega, fun _ h5' h6' => ?_⟩
      · rcases h5.1 with e | e <;> rw [e] at h <;> exact absurd h (by decide)
      · rcases h5.1 with e | e
        · exact absurd (by rw [e]; rfl) h5'
        · exact absurd (by rw [e]; rfl) h6'
    · split at hs
      · rename_i hf
        refine ⟨fun h => ?_, fun h => ?_, fun _ _ _ => hf⟩
        · rcases leaf_any hf with e | e | e
          · rw [e] at h; cases h
          · omega
          · omega
        · rcases leaf_any hf with e | e | e
          · rw [e] at h; rcases h with h | h <;> cases h
          · omega
          · omega
      · cases hs
theorem leaf_kinds {P : Bytes → Bool} {t : Test} (h : leafOk P t = true) : (0 ≤ t.Kind ∧ t.Kind ≤ 3) ∧ (t.Kind = 0 → 0 ≤ t.Op ∧ t.Op ≤ 5 ∧ 0 ≤ t.N ∧ t.N ≤ 4095) := by
  refine ⟨?_, leaf_rng h⟩
  rcases leaf_any h with e | e | e
  · rw [e]; exact ⟨by decide, by decide⟩
  · omega
  · omega
theorem FmJ.neg (h : FmJ ts k l) (hk : k < ts.length) (hv : validV stepV ts = true) (h4 : (ts.getD k default).Kind = 4) {W : List Bytes} (hW : W = wrapV (l.getD (l.length - 1) default).words (l.getD (l.length - 1) default).strength 2) : FmJ ts (k + 1) (l.set (l.length - 1) (Txt.mk ([wNOT] ++ W) A C 2)) := by
  obtain ⟨st, l', hb, hs, hg, hI, hP⟩ := h.go hk hv
  have hl := tx_len hb
  have hf := (h.few hk hv).1 h4
  refine ⟨l', hg, ?_, hI, hP⟩
  unfold stepT at hs
  split at hs
  · obtain rfl := Option.some.inj hs
    obtain ⟨e1, e2⟩ := tx_at hb (i := l.length - 1) (by omega)
    rw [List.map_set, List.map_set, hb, hl]
    congr 1
    show ([wNOT] ++ W, (2 : Int)) = (wordsV (.neg _) 0, 2)
    rw [wd_n (by omega), words_wrap _ 2, ← hl, ← e1, hW, e2]; rfl
  · rename_i hn
    split at hs
    · rename_i h5; rcases h5.1 with e | e <;> rw [e] at h4 <;> exact absurd h4 (by decide)
    · split at hs
      · rename_i hq
        rcases leaf_any hq with e | e | e
        · rw [e] at h4; cases h4
        · omega
        · omega
      · cases hs
theorem FmJ.pair (h : FmJ ts k l) (hk : k < ts.length) (hv : validV stepV ts = true) (h5 : (ts.getD k default).Kind = 5 ∨ (ts.getD k default).Kind = 6) {W : List Bytes} {z : Int} (hW : ∀ x y : Node, (l.getD (l.length - 2) default).words = wordsV x 0 → (l.getD (l.length - 2) default).strength = (strength x : Int) → (l.getD (l.length - 1) default).words = wordsV y 0 → (l.getD (l.length - 1) default).strength = (strength y : Int) → (W, z) = tw (.pair (decide ((ts.getD k default).Kind = 5)) x y)) : FmJ ts (k + 1) (l.take (l.length - 2) ++ [Txt.mk W A C z]) := by
  obtain ⟨st, l', hb, hs, hg, hI, hP⟩ := h.go hk hv
  have hl := tx_len hb
  have hf := (h.few hk hv).2.1 h5
  refine ⟨l', hg, ?_, hI, hP⟩
  unfold stepT at hs
  split at hs
  · rename_i h4; rw [h4.1] at h5; rcases h5 with h | h <;> cases h
  · split at hs
    · obtain rfl := Option.some.inj hs
      obtain ⟨e1, e2⟩ := tx_at hb (i := l.length - 2) (by omega)
      obtain ⟨e3, e4⟩ := tx_at hb (i := l.length - 1) (by omega)
      rw [List.map_append, List.map_append, List.map_take, List.map_take, hb, hl]
      congr 1
      rw [List.map_cons, List.map_nil, List.map_cons, List.map_nil]
      rw [← hl]
      exact congrArg (fun q => [q]) (hW _ _ e1 e2 e3 e4)
    · split at hs
      · rename_i hq
        rcases leaf_any hq with e | e | e
        · rw [e] at h5; rcases h5 with h | h <;> cases h
        · omega
        · omega
      · cases hs
theorem FmJ.and (h : FmJ ts k l) (hk : k < ts.length) (hv : validV stepV ts = true) (h5 : (ts.getD k default).Kind = 5) {W V : List Bytes} (hW : W = wrapV (l.getD (l.length - 2) default).words (l.getD (l.length - 2) default).strength 1) (hV : V = wrapV (l.getD (l.length - 1) default).words (l.getD (l.length - 1) default).strength 2) : FmJ ts (k + 1) (l.take (l.length - 2) ++ [Txt.mk (W ++ [wAND] ++ V) A C 1]) := by
  refine h.pair hk hv (.inl h5) fun x y e1 e2 e3 e4 => ?_
  unfold tw
  rw [decide_eq_true h5]
  rw [show wordsV (.pair true x y) 0 = wordsV x 1 ++ [wAND] ++ wordsV y 2 from by rw [wordsV, inP, if_neg (by simp)]; rfl, words_wrap x 1, words_wrap y 2, hW, hV, e1, e2, e3, e4]; rfl
theorem FmJ.or (h : FmJ ts k l) (hk : k < ts.length) (hv : validV stepV ts = true) (h5 : (ts.getD k default).Kind = 6) {V : List Bytes} (hV : V = wrapV (l.getD (l.length - 1) default).words (l.getD (l.length - 1) default).strength 1) : FmJ ts (k + 1) (l.take (l.length - 2) ++ [Txt.mk ((l.getD (l.length - 2) default).words ++ [wOR] ++ V) A C 0]) := by
  refine h.pair hk hv (.inr h5) fun x y e1 e2 e3 e4 => ?_
  unfold tw
  rw [decide_eq_false (by omega)]
  rw [show wordsV (.pair false x y) 0 = wordsV x 0 ++ [wOR] ++ wordsV y 1 from by rw [wordsV, inP, if_neg (by simp)]; rfl, words_wrap y 1, hV, e1, e3, e4]; rfl
theorem FmJ.leaf (h : FmJ ts k l) (hk : k < ts.length) (hv : validV stepV ts = true) (h4 : ¬ (ts.getD k default).Kind = 4) (h5 : ¬ (ts.getD k default).Kind = 5) (h6 : ¬ (ts.getD k default).Kind = 6) {W : List Bytes} (hW : leafW (ts.getD k default) = W) : FmJ ts (k + 1) (l ++ [Txt.mk W A C 2]) := by
  obtain ⟨st, l', hb, hs, hg, hI, hP⟩ := h.go hk hv
  refine ⟨l', hg, ?_, hI, hP⟩
  unfold stepT at hs
  split at hs
  · rename_i h; rw [h.1] at h4; exact absurd rfl h4
  · split at hs
    · rename_i h; rcases h.1 with e | e
      · rw [e] at h5; exact absurd rfl h5
      · rw [e] at h6; exact absurd rfl h6
    · split at hs
      · obtain rfl := Option.some.inj hs
        rw [List.map_append, List.map_append, hb]
        congr 1
        show [(W, (2 : Int))] = [(wordsV (.leaf _ _) 0, 2)]
        rw [wd_leaf (by omega), hW]
      · cases hs
theorem FmJ.leaf0 (h : FmJ ts k l) (hk : k < ts.length) (hv : validV stepV ts = true) (h0 : (ts.getD k default).Kind = 0) : FmJ ts (k + 1) (l ++ [Txt.mk [(ts.getD k default).Step, wRC, rels.getD (ts.getD k default).Op.toNat [], Lib.decDigits (ts.getD k default).N.toNat] A C 2]) :=
  h.leaf hk hv (by omega) (by omega) (by omega) (if_pos h0)
theorem FmJ.leaf1 (h : FmJ ts k l) (hk : k < ts.length) (hv : validV stepV ts = true) (h0 : (ts.getD k default).Kind = 1) : FmJ ts (k + 1) (l ++ [Txt.mk [(ts.getD k default).Step, wFAILED] A C 2]) :=
  h.leaf hk hv (by omega) (by omega) (by omega) (by unfold leafW; rw [if_neg (by omega), if_pos h0])
theorem FmJ.leaf2 (h : FmJ ts k l) (hk : k < ts.length) (hv : validV stepV ts = true) (h0 : (ts.getD k default).Kind = 2) : FmJ ts (k + 1) (l ++ [Txt.mk [(ts.getD k default).Step, wRAN] A C 2]) :=
  h.leaf hk hv (by omega) (by omega) (by omega) (by unfold leafW; rw [if_neg (by omega), if_neg (by omega), if_pos h0])
theorem FmJ.leaf3 (h : FmJ ts k l) (hk : k < ts.length) (hv : validV stepV ts = true) (h0 : (ts.getD k default).Kind = 3) : FmJ ts (k + 1) (l ++ [Txt.mk [wFAILED] A C 2]) :=
  h.leaf hk hv (by omega) (by omega) (by omega) (by unfold leafW; rw [if_neg (by omega), if_neg (by omega), if_neg (by omega)])
theorem post_mem {x : Node} : ∀ {st : List Node}, x ∈ st → (post x).length ≤ (posts st).length
  | y :: st, h => by
    have e : (posts (y :: st)).length = (post y).length + (posts st).length := by unfold posts; rw [List.flatMap_cons, List.length_append]
    rcases List.mem_cons.1 h with h | h
    · subst h; omega
    · have := post_mem h; omega
theorem FmJ.bound (h : FmJ ts k l) (i : Nat) : (l.getD i default).words.length ≤ 6 * k := by
  obtain ⟨st, _, h2, _, h4⟩ := h
  by_cases hi : i < l.length
  · rw [(tx_at h2 hi).1]
    have h5 := words_le (st.getD i default) 0
    have h6 := post_mem (R44.getD_mem (d := default) (by rw [← tx_len h2]; exact hi : i < st.length))
    omega
  · rw [List.getD_eq_getElem?_getD, List.getElem?_eq_none (by omega)]; exact Nat.zero_le _
theorem valid_len (h : validV stepV ts = true) : ts.length ≤ 32 := by
  unfold validV at h
  rw [Bool.and_eq_true] at h; exact of_decide_eq_true h.1
theorem form_no (h : validV stepV ts = false) : formatV ts = [] := by
  refine format_no ?_
  cases hx : (treeV stepV ts).isSome with
  | false => rfl
  | true =>
    rw [valid_tree] at hx
    rw [Bool.and_eq_true] at hx
    unfold validV at h; rw [hx.1, hx.2] at h; cases h
theorem FmJ.done0 (h : FmJ ts k l) (hk : k = ts.length) (hv : validV stepV ts = true) (h0 : l.length = 0) : formatV ts = [] := by
  by_cases he : ts = []
  · subst he; rfl
  · obtain ⟨st, h1, h2, _⟩ := h
    obtain ⟨x, hx, _⟩ := treeN_ne he hv
    rw [hk, List.drop_length, treeG, hx] at h1
    obtain rfl := Option.some.inj h1
    have := tx_len h2; rw [h0] at this; cases this
theorem FmJ.done1 (h : FmJ ts k l) (hk : k = ts.length) (hv : validV stepV ts = true) (h0 : ¬ l.length = 0) : (l.getD 0 default).words = formatV ts := by
  obtain ⟨st, h1, h2, h3, h4⟩ := h
  have he : ts ≠ [] := fun e => by
    have h5 := tx_len h2
    subst e
    cases st with
    | nil => exact h0 h5
    | cons y st =>
      have := post_mem (x := y) (st := y :: st) List.mem_cons_self
      have := post_len y
      simp only [List.length_nil] at hk; omega
  obtain ⟨x, hx, hn⟩ := treeN_ne he hv
  rw [hk, List.drop_length, treeG, hx] at h1
  obtain rfl := Option.some.inj h1
  rw [(tx_at h2 (i := 0) (by omega)).1]
  unfold formatV; rw [hn]; rfl
end
end R40
end Go.Proofs.YtngjdmhpljmkpaaGreatDoor
