/- Pl39k, GvAb, C39d in one text. -/
import Derived.Test.YtbfiibgmgopnaaaDoorJobtextCalls9
import Derived.Test.YtbfiibgmgopnaaaDoorJobtextCalls3
set_option linter.unusedVariables false
set_option linter.unusedSimpArgs false
namespace Go.Proofs.YtbfiibgmgopnaaaDoor
open Go.GV
namespace R39
theorem look_eq (m : List KV) (k : Bytes) : look m k = lookK m k := rfl
theorem valsG_cons (M : List KV) (x : Bytes) (r : List Bytes) : valsG M (x :: r) = match cutB 61 x with
    | none => none
    | some (a, v) => if (look M a).isSome = true ∨ symV a = false then none else valsG (M ++ [(a, v)]) r := by
  rw [valsG]
  cases cutB 61 x with
  | none => rfl
  | some p => rfl
theorem dropL {α : Type} [Inhabited α] {l : List α} {k : Nat} (h : k < l.length) (d : α) : l.drop k = l.getD k d :: l.drop (k + 1) := by
  rw [List.drop_eq_getElem_cons h, List.getD_eq_getElem?_getD, List.getElem?_eq_getElem h]; rfl
section
variable {M : List KV} {ws : List Bytes} {k : Nat} {V : Option (List KV)} {o : Bool} {a r : Bytes}
theorem vals_step (h : valsG M (ws.drop k) = V) (hk : k < ws.length) (ho : o = true → cutB 61 (ws.getD k []) = some (a, r)) (hb : ((!o || (lookK M a).isSome) || !symV a) = false) : valsG (putK M a r) (ws.drop (k + 1)) = V := by
  rw [dropL hk [], valsG_cons] at h
  cases o with
  | false => cases hb
  | true =>
    rw [ho rfl] at h
    have h : (if (look M a).isSome = true ∨ symV a = false then none else valsG (M ++ [(a, r)]) (ws.drop (k + 1))) = V := h
    simp only [Bool.not_true, Bool.false_or, Bool.or_eq_false_iff, Bool.not_eq_false'] at hb
    have hn : lookK M a = none := by cases e : lookK M a with | none => rfl | some x => rw [e] at hb; cases hb.1
    rw [if_neg (by rw [look_eq, hn, hb.2]; decide)] at h
    rw [put_new a r M hn]; exact h
theorem vals_bad (h : valsG M (ws.drop k) = V) (hk : k < ws.length) (ho : o = true → cutB 61 (ws.getD k []) = some (a, r)) (hn : o = false → cutB 61 (ws.getD k []) = none) (hb : ((!o || (lookK M a).isSome) || !symV a) = true) : V = none := by
  rw [dropL hk [], valsG_cons] at h
  cases o with
  | false => rw [hn rfl] at h; exact h.symm
  | true =>
    rw [ho rfl] at h
    have h : (if (look M a).isSome = true ∨ symV a = false then none else valsG (M ++ [(a, r)]) (ws.drop (k + 1))) = V := h
    rw [if_pos (by
      simp only [Bool.not_true, Bool.false_or, Bool.or_eq_true, Bool.not_eq_true'] at hb
      exact hb)] at h
    exact h.symm
theorem vals_done (h : valsG M (ws.drop k) = V) (hk : ¬ k < ws.length) : V = some M := by
  rw [List.drop_eq_nil_of_le (by omega), valsG] at h; exact h.symm
theorem vals_yes (h : V = none) (hs : V.isSome = true) : False := by rw [h] at hs; cases hs
theorem vals_no (h : V = some M) (hs : V.isSome = false) : False := by rw [h] at hs; cases hs
theorem valsG_short : ∀ (ws : List Bytes) (M V : List KV), valsG M ws = some V → ShortV M → (∀ w ∈ ws, w.length ≤ 20000) → ShortV V
  | [], M, V, h, hM, _ => by rw [valsG] at h; cases h; exact hM
  | x :: r, M, V, h, hM, hw => by
    rw [valsG_cons] at h
    cases hc : cutB 61 x with
    | none => rw [hc] at h; cases h
    | some p =>
      rw [hc] at h
      have h : (if (look M p.1).isSome = true ∨ symV p.1 = false then none else valsG (M ++ [(p.1, p.2)]) r) = some V := h
      split at h
      · cases h
      · rename_i hn
        rw [not_or] at hn
        have hn1 : lookK M p.1 = none := by
          cases e : lookK M p.1 with
          | none => rfl
          | some y => exact absurd (by rw [look_eq, e]; rfl) hn.1
        rw [← put_new p.1 p.2 M hn1] at h
        refine valsG_short r _ V h (fun q => ?_) fun w hm => hw w (List.mem_cons_of_mem _ hm)
        rw [look_put]
        split
        · show p.2.length ≤ _
          have h1 := congrArg List.length (cutB_le (a := p.1) (r := p.2) hc)
          rw [List.length_append, List.length_cons] at h1
          have h2 := hw x List.mem_cons_self
          omega
        · exact hM q
end
theorem shortV_nil : ShortV [] := fun _ => Nat.zero_le _
theorem shortV_put {M : List KV} (h : ShortV M) {k v : Bytes} (hv : v.length ≤ 20000) : ShortV (putK M k v) := fun q => by
  rw [look_put]; split
  · exact hv
  · exact h q
def resL (r : Res (List Bytes)) : List Bytes := match r with
  | .ok l => l
  | .error _ => []
def resN {α : Type} (r : Res α) : Int := match r with
  | .ok _ => 0
  | .error e => e.1
def resC {α : Type} (r : Res α) : Int := match r with
  | .ok _ => 0
  | .error e => e.2
def InlJ (n : Int) (rest : List Row) (out : List Bytes) (k : Nat) : Prop := inl n 0 rest = (inl n k (rest.drop k)).map (out ++ ·)
section
variable {n : Int} {rest : List Row} {out : List Bytes} {k : Nat}
theorem InlJ.start : InlJ n rest [] 0 := by
  unfold InlJ
  rw [List.drop_zero]
  cases inl n 0 rest <;> rfl
theorem InlJ.step (h : InlJ n rest out k) (hk : k < rest.length) (ho : out.length = k) (h1 : ¬ (rest.getD k default).text = wSTOP) (h2 : (decide ((64 : Int) ≤ ((out.length : Nat) : Int)) || decide ((200 : Int) < (((rest.getD k default).text.length : Nat) : Int))) = false) : InlJ n rest (out ++ [(rest.getD k default).text]) (k + 1) := by
  unfold InlJ at *
  simp only [Bool.or_eq_false_iff, decide_eq_false_iff_not] at h2
  rw [h, dropL hk default, inl, if_neg h1, if_neg (by show ¬ (64 ≤ k ∨ 200 < List.length _); omega)]
  cases inl n (k + 1) (rest.drop (k + 1)) with
  | error e => rfl
  | ok l => exact congrArg Except.ok (by simp)
theorem InlJ.stop (h : InlJ n rest out k) (hk : k < rest.length) (h1 : (rest.getD k default).text = wSTOP) : inl n 0 rest = .ok out := by
  unfold InlJ at h
  rw [h, dropL hk default, inl, if_pos h1]; show Except.ok (out ++ []) = _; rw [List.append_nil]
theorem InlJ.big (h : InlJ n rest out k) (hk : k < rest.length) (ho : out.length = k) (h1 : ¬ (rest.getD k default).text = wSTOP) (h2 : (decide ((64 : Int) ≤ ((out.length : Nat) : Int)) || decide ((200 : Int) < (((rest.getD k default).text.length : Nat) : Int))) = true) : inl n 0 rest = .error ((rest.getD k default).number, 8) := by
  unfold InlJ at h
  simp only [Bool.or_eq_true, decide_eq_true_eq] at h2
  rw [h, dropL hk default, inl, if_neg h1, if_pos (by show 64 ≤ k ∨ 200 < List.length _; omega)]; rfl
theorem InlJ.out_ (h : InlJ n rest out k) (hk : ¬ k < rest.length) : inl n 0 rest = .error (n, 3) := by
  unfold InlJ at h
  rw [h, List.drop_eq_nil_of_le (by omega)]; rfl
theorem resL_ok {l : List Bytes} {r : Res (List Bytes)} (h : r = .ok l) : l = resL r := by rw [h]; rfl
theorem resL_er {r : Res (List Bytes)} {x : Int × Int} (h : r = .error x) : [] = resL r := by rw [h]; rfl
theorem resN_ok {α : Type} {r : Res α} {l : α} (h : r = .ok l) : 0 = resN r := by rw [h]; rfl
theorem resC_ok {α : Type} {r : Res α} {l : α} (h : r = .ok l) : 0 = resC r := by rw [h]; rfl
theorem resN_er {α : Type} {r : Res α} {a b : Int} (h : r = .error (a, b)) : a = resN r := by rw [h]; rfl
theorem resC_er {α : Type} {r : Res α} {a b : Int} (h : r = .error (a, b)) : b = resC r := by rw [h]; rfl
theorem inl_code : ∀ (k : Nat) (l : List Row) (e : Int × Int), inl n k l = .error e → e.2 ≠ 0
  | k, [], e, h => by cases h; show (3 : Int) ≠ 0; decide
  | k, x :: r, e, h => by
    rw [inl] at h
    split at h
    · cases h
    · split at h
      · cases h; show (8 : Int) ≠ 0; decide
      · cases hr : inl n (k + 1) r with
        | error y => rw [hr] at h; cases h; exact inl_code (k + 1) r _ hr
        | ok l => rw [hr] at h; cases h
theorem inl_max : ∀ (k : Nat) (r : List Row) (l : List Bytes), k ≤ 64 → inl n k r = .ok l → l.length + k ≤ 64
  | k, [], l, _, h => by cases h
  | k, x :: r, l, hk, h => by
    rw [inl] at h
    split at h
    · cases h; simpa using hk
    · split at h
      · cases h
      · rename_i h2
        cases hr : inl n (k + 1) r with
        | error y => rw [hr] at h; cases h
        | ok l2 =>
          rw [hr] at h; cases h
          have := inl_max (k + 1) r l2 (by rw [not_or] at h2; omega) hr
          rw [List.length_cons]; omega
end
theorem resL_64 {n : Int} {r : List Row} {l : List Bytes} (h : inl n 0 r = .ok l) : l.length ≤ 64 := by have := inl_max 0 r l (by omega) h; omega
def pur (e : Statement) : Stm := ⟨e.Line, e.Call, e.Words, e.Data⟩
def stmN (len : Nat) (n : Int) (ws : List Bytes) (rest : List Row) : Res (Nat × List Bytes) :=
  if 400 ≤ len then .error (n, 8)
  else if ws.getD 0 [] = wDD ∧ ws.length = 3 ∧ ws.getD 2 [] = wINL then
    match inl n 0 rest with
    | .error e => .error e
    | .ok l => .ok (l.length + 1, l)
  else .ok (0, [])
theorem stmV_eq (n : Int) (call : Bytes) (ws : List Bytes) (rest : List Row) (s : RS) : stmV n call ws rest s = match stmN s.out.length n ws rest with
    | .error e => .error e
    | .ok (k, l) => .ok (k, { s with out := s.out ++ [⟨n, call, ws, l⟩] }) := by
  unfold stmV stmN
  split
  · rfl
  · split
    · cases inl n 0 rest <;> rfl
    · rfl
def StmJ (R : Res (Nat × List Bytes)) (o y : List Statement) (e : Statement) (l : List Bytes) (n fl fc : Int) : Prop :=
  (∃ k : Nat, R = .ok (k, l) ∧ y = o ++ [e] ∧ n = k ∧ fl = 0 ∧ fc = 0) ∨ (R = .error (fl, fc) ∧ fc ≠ 0 ∧ y = o)
section
variable {len : Nat} {n m : Int} {ws : List Bytes} {rest : List Row} {o : List Statement} {e : Statement}
theorem stm_big (h : (400 : Int) ≤ ((len : Nat) : Int)) {l : List Bytes} : StmJ (stmN len n ws rest) o o e l m n 8 := .inr ⟨by unfold stmN; rw [if_pos (by omega)], by decide, rfl⟩
theorem stm_dd {b : Bool} (h : ((decide (ws.getD 0 [] = wDD) && b) && decide (ws.getD 2 [] = wINL)) = true) (hb : b = decide (((ws.length : Nat) : Int) = 3)) : ws.getD 0 [] = wDD ∧ ws.length = 3 ∧ ws.getD 2 [] = wINL := by
  subst hb
  simp only [Bool.and_eq_true, decide_eq_true_eq] at h
  exact ⟨h.1.1, by omega, h.2⟩
theorem stm_nd {b : Bool} (h : ((decide (ws.getD 0 [] = wDD) && b) && decide (ws.getD 2 [] = wINL)) = false) (hb : b = decide (((ws.length : Nat) : Int) = 3)) : ¬ (ws.getD 0 [] = wDD ∧ ws.length = 3 ∧ ws.getD 2 [] = wINL) := by
  rintro ⟨h1, h2, h3⟩
  subst hb
  rw [decide_eq_true h1, decide_eq_true h3, decide_eq_true (show ((ws.length : Nat) : Int) = 3 by omega)] at h
  cases h
theorem stm_err (h0 : ¬ (400 : Int) ≤ ((len : Nat) : Int)) (h : ws.getD 0 [] = wDD ∧ ws.length = 3 ∧ ws.getD 2 [] = wINL) (hc : resC (inl n 0 rest) ≠ 0) {l : List Bytes} : StmJ (stmN len n ws rest) o o e l m (resN (inl n 0 rest)) (resC (inl n 0 rest)) := by
  refine .inr ⟨?_, hc, rfl⟩
  unfold stmN
  rw [if_neg (by omega), if_pos h]
  cases hi : inl n 0 rest with
  | error x => rfl
  | ok l => rw [hi] at hc; exact absurd rfl hc
theorem stm_data (h0 : ¬ (400 : Int) ≤ ((len : Nat) : Int)) (h : ws.getD 0 [] = wDD ∧ ws.length = 3 ∧ ws.getD 2 [] = wINL) (hc : ¬ resC (inl n 0 rest) ≠ 0) {l : List Bytes} (hl : l = resL (inl n 0 rest)) : StmJ (stmN len n ws rest) o (o ++ [e]) e l ((l.length + 1 : Nat) : Int) 0 0 := by
  refine .inl ⟨l.length + 1, ?_, rfl, rfl, rfl, rfl⟩
  unfold stmN
  rw [if_neg (by omega), if_pos h]
  cases hi : inl n 0 rest with
  | error x => exact absurd (inl_code 0 rest x hi) (by rw [hi] at hc; exact hc)
  | ok q => rw [hi] at hl; rw [show l = q from hl]
theorem stm_none (h0 : ¬ (400 : Int) ≤ ((len : Nat) : Int)) (h : ¬ (ws.getD 0 [] = wDD ∧ ws.length = 3 ∧ ws.getD 2 [] = wINL)) : StmJ (stmN len n ws rest) o (o ++ [e]) e [] 0 0 0 := by
  refine .inl ⟨0, ?_, rfl, rfl, rfl, rfl⟩
  unfold stmN
  rw [if_neg (by omega), if_neg h]
end
def KeysNd (m : List KV) : Prop := (m.map (·.1)).Nodup
theorem look_mem : ∀ {m : List KV} {q v : Bytes}, KeysNd m → (q, v) ∈ m → lookK m q = some v
  | [], _, _, _, h => by cases h
  | (a, u) :: m, q, v, hn, h => by
    unfold KeysNd at hn
    rw [List.map_cons, List.nodup_cons] at hn
    unfold lookK
    rw [List.find?_cons]
    rcases List.mem_cons.1 h with e | h
    · cases e; simp
    · have hne : a ≠ q := fun e => hn.1 (List.mem_map.2 ⟨(q, v), h, e.symm⟩)
      rw [show decide ((a, u).1 = q) = false from decide_eq_false hne]
      exact look_mem (m := m) hn.2 h
theorem look_none {m : List KV} {q : Bytes} (h : ∀ v, (q, v) ∉ m) : lookK m q = none := by
  unfold lookK
  cases e : m.find? (fun p => p.1 = q) with
  | none => rfl
  | some p =>
    have h1 := List.mem_of_find?_eq_some e
    have h2 := List.find?_some e
    simp only [decide_eq_true_eq] at h2
    subst h2
    exact absurd h1 (h p.2)
def CopyJ (D m left X : List KV) : Prop := (∀ p ∈ left, p ∈ m) ∧ ∀ q, (∀ v, (q, v) ∉ left) → lookK X q = over (lookK D) m q
section
variable {D m left X : List KV} {p : KV} {n : Nat}
theorem CopyJ.start : CopyJ D m m D := ⟨fun _ h => h, fun q h => by
  unfold over; rw [look_eq, look_none h]⟩
theorem CopyJ.step (h : CopyJ D m left X) (hn : KeysNd m) (hp : left[n]? = some p) : CopyJ D m (left.eraseIdx n) (putK X p.1 p.2) := by
  have hl := (List.getElem?_eq_some_iff.1 hp).1
  have hm := List.mem_of_getElem? hp
  refine ⟨fun x hx => h.1 x (List.mem_of_mem_eraseIdx hx), fun q hq => ?_⟩
  rw [look_put]
  by_cases e : q = p.1
  · subst e
    rw [if_pos rfl]
    unfold over
    rw [look_eq, look_mem hn (h.1 p hm)]
  · rw [if_neg e]
    refine h.2 q fun v hv => hq v ?_
    obtain ⟨i, hi, hie⟩ := List.getElem_of_mem hv
    have hne : i ≠ n := fun e2 => by
      subst e2
      rw [List.getElem?_eq_getElem hi, hie] at hp
      injection hp with hp
      exact e (by rw [← hp])
    exact List.mem_eraseIdx_iff_getElem?.2 ⟨i, hne, by rw [List.getElem?_eq_getElem hi, hie]⟩
theorem CopyJ.done (h : CopyJ D m left X) (h0 : left = []) : lookK X = over (lookK D) m := by
  funext q; exact h.2 q fun v hv => by rw [h0] at hv; cases hv
end
theorem shortV_over {D X m : List KV} (h : lookK X = over (lookK D) m) (h1 : ShortV D) (h2 : ShortV m) : ShortV X := fun q => by
  rw [h]; unfold over
  have := h2 q
  rw [look_eq]
  cases e : lookK m q with
  | none => exact h1 q
  | some v => rw [e] at this; exact this
theorem keys_nil : KeysNd [] := List.nodup_nil
theorem valsG_nd : ∀ (ws : List Bytes) (M V : List KV), valsG M ws = some V → KeysNd M → KeysNd V
  | [], M, V, h, hM => by rw [valsG] at h; cases h; exact hM
  | x :: r, M, V, h, hM => by
    rw [valsG_cons] at h
    cases hc : cutB 61 x with
    | none => rw [hc] at h; cases h
    | some p =>
      rw [hc] at h
      have h : (if (look M p.1).isSome = true ∨ symV p.1 = false then none else valsG (M ++ [(p.1, p.2)]) r) = some V := h
      split at h
      · cases h
      · rename_i hn
        rw [not_or] at hn
        refine valsG_nd r _ V h ?_
        unfold KeysNd at *
        rw [List.map_append, List.nodup_append]
        refine ⟨hM, by simp, fun a ha b hb => ?_⟩
        simp only [List.map_cons, List.map_nil, List.mem_singleton] at hb
        subst hb
        intro e
        obtain ⟨y, hy, rfl⟩ := List.mem_map.1 ha
        refine hn.1 ?_
        rw [look_eq, ← e, look_mem (q := y.1) (v := y.2) hM hy]; rfl
end R39
end Go.Proofs.YtbfiibgmgopnaaaDoor

namespace Go.GV
open Go.RowKit
section
variable {P : Program} {n : Dim} {S : List Nat} {w0 : World} {Q : Post} {E : Env} {L : List Ent} {ops : Array Oper} {o : Oper} {Lg Lu : List Ent} {us : List Nat} {fuel : Nat} {listed : Array Bool}
theorem wpAnyG_monoG {ro : Option Nat} {G1 G2 : Array Bool → World → Prop} (hG : ∀ l w, G1 l w → G2 l w) : ∀ (fuel : Nat) (listed : Array Bool) (a : Act) (w : World), wpAnyG ro P ops Q G1 fuel listed a w → wpAnyG ro P ops Q G2 fuel listed a w
  | 0, _, _, _, h => ⟨hG _ _ h.1, h.2.1, h.2.2⟩
  | fuel + 1, listed, a, w, h => ⟨hG _ _ h.1, h.2.1, fun i hi => wpOpIn_mono (fun a w h => wpAnyG_monoG hG fuel _ a w h) (h.2.2 i hi)⟩
theorem JI_callB {i : Nat} (Sc : List Nat) (Lc Lr : List Ent) {f : FuncId} {args : Array Value} {φ : World → Value → List Ent → World → Prop} (hi : ops[i]? = some o) (hfit : fit n E o = true) (hw : wants ops E o)
    (hr : ∀ w, (execOp (ev E) o).run P w = .ok (.enter f args) w) (hL : ∀ w, St S w0 w L → St S w0 w (Lc ++ Lr)) (hS : ∀ b ∈ Sc, ∃ e ∈ Lc, e.own = some b)
    (hc : ∀ w, St S w0 w (Lc ++ Lr) → Calls P f args w (GivesW Sc w (φ w)))
    (h : ∀ w v L' w', φ w v L' w' → St S w0 w (Lc ++ Lr) → St S w0 w' (L' ++ Lr) → JA P n (Lown (L' ++ Lr)) w' ops Q Lg us Lu fuel (listed.setIfInBounds i true) (put E o.dst v) (L' ++ Lr)) : JI P n S w0 ops Q Lg us Lu fuel listed E L i := by
  intro a w hR hSt hcl
  unfold wpOpIn
  rw [hi]
  simp only [wants_wanted hR hw, if_true]
  refine ⟨fun _ _ => trivial, ?_⟩
  rw [fit_sem hfit hR, hr w]
  refine ⟨fun h => (by cases h), (callsIn_wd (m := 0 - 1)).2 ((hc w (hL w hSt)).mono ?_)⟩
  rintro e w' ⟨v, L', rfl, hφ, hS'⟩
  have hs := (hL w hSt).after hS hS'
  exact wpAnyG_monoG (fun l w2 hG => ⟨hs.back _ _ hG.1, fun hu => hs.back _ _ (hG.2 hu)⟩) _ _ _ _ (h w v L' w' hφ (hL w hSt) hs _ _ (hR.put (fit_dst hfit) v) hs.base hcl)
end
end Go.GV

namespace Go.Proofs.YtbfiibgmgopnaaaDoor
open Go.GV
set_option linter.unusedVariables false
set_option linter.unusedSimpArgs false
theorem c39d0_ {p : Prop} (h : p := by first | exact R39.stm_big (by assumption) | exact R39.stm_err (by assumption) (R39.stm_dd (by assumption) rfl) (by assumption) | exact R39.stm_data (by assumption) (R39.stm_dd (by assumption) rfl) (by assumption) (by assumption) | exact R39.stm_none (by assumption) (R39.stm_nd (by assumption) rfl)) : p := h
theorem c39d1_ {p : Prop} (h : p := by first | omega | (rw [List.length_append, List.length_singleton]; omega)) : p := h
theorem c39d2_ {p : Prop} (h : p := by first | exact R39.resL_ok (i1_0.stop (by omega) (by assumption)) | exact R39.resL_er (i1_0.big (by omega) i1_1 (by assumption) (by assumption)) | exact R39.resL_er (i1_0.out_ (by omega))) : p := h
theorem c39d3_ {p : Prop} (h : p := by first | exact R39.resL_64 (i1_0.stop (by omega) (by assumption)) | exact Nat.zero_le _) : p := h
set_option maxRecDepth 20000 in
theorem f91_ok (rows : List Row) (rowsA : Option Addr) (rowsC : Nat) (cl : Bytes) (inn : Bool) (code : Int) (w : World) (rowsR : RO [] w rowsA (rows.flatMap Row.enc)) (q0 : 0 < rows.length) : Calls Tryd.prog 91 #[vG [vL rowsA rows.length rowsC, vS cl, vB inn], vI code] w (Gives [] w fun v L => v = vG [vI ((rows.getD 0 default).number), vI code] ∧ L = []) := by
 refine calls_J [] 12 Tryd.func91 rfl Tryd.ntmps91 [(0, _), (1, _)] rfl rfl (Give.nil w) ?_
 refine q_ (g_ (o_ (bxG fun b1 => ?_)))
 refine o_ (al_ Ty.ze79 fun b2 => ?_)
 refine z_ (n_ (q_ (g_ (s_ (fA 0 Ty.fi82_0) (r_ (ld_ 1 Ty.sc68) (r_ (ixF (k := 0) Row.enc_len (cells_ro rowsR) Tryd.underlying68 Ty.sz73) (s_ (x_fieldAddr Ty.fi73_0 rfl rfl) (r_ (ldF (k := 0) 0 Row.enc_len (cells_ro rowsR) Ty.sc3) (s_ mv_ (js_ (vG [vI ((rows.getD 0 default).number), vI code]) (x_build (by kernel_rfl)) (o_ (stG 0 Ty.sz79 ?_))))))))))))
 refine z_ (n_ (rt_ ?_))
 refine JX_rets [_] _ Tryd.results91 (fun w h => ⟨⟨_, rfl, load_blkN 0 [vI ((rows.getD 0 default).number), vI code] h rfl Ty.ag79 Ty.sz79 rfl⟩, trivial⟩) rfl _ (fun _ h => h.keep [false, false] rfl) ⟨?_, ?_⟩
 ·rfl
 ·rfl
set_option maxRecDepth 20000 in
theorem f101_ok (rows : List Row) (rowsA : Option Addr) (rowsC : Nat) (cl : Bytes) (inn : Bool) (w : World) (rowsR : RO [] w rowsA (rows.flatMap Row.enc)) (q0 : 0 < rows.length) (q1 : rows.length ≤ rowsC) (q2 : rows.length ≤ 100000) : Calls Tryd.prog 101 #[vG [vL rowsA rows.length rowsC, vS cl, vB inn]] w (GivesW [] w fun v L wx => ∃ l : List Bytes, ∃ lA : Option Addr, ∃ lC : Nat, v = Value.tuple #[vL lA l.length lC, vG [vI (R39.resN (R39.inl (rows.getD 0 default).number 0 (rows.drop 1))), vI (R39.resC (R39.inl (rows.getD 0 default).number 0 (rows.drop 1)))]] ∧ L = [] ∧ RO (List.range w.heap.size) wx lA (l.map vS) ∧ l.length ≤ lC ∧ (l = R39.resL (R39.inl (rows.getD 0 default).number 0 (rows.drop 1))) ∧ (l.length ≤ 64)) := by
 refine calls_JW [] 42 Tryd.func101 rfl Tryd.ntmps101 [(0, _)] rfl rfl (Give.nil w) ?_
 refine q_ (g_ (o_ (bxG fun b1 => ?_)))
 refine s_ av_ (o_ (al_ Ty.ze79 fun b2 => ?_))
 refine z_ (n_ (q_ (g_ (s_ av_ (z_ (n_ (q_ (q_ (g_ (s_ (fA 0 Ty.fi82_0) (r_ (ld_ 1 Ty.sc68) (s_ (x_subrow (lo := 1) (hi := rows.length) rfl Tryd.underlying68 Ty.sz73 (.inl rfl) (.inr ⟨rfl, rfl⟩) lt_ lt_) ?_))))))))))))
 have hro3 := RO.subF rowsR Row.enc_len rowsC 1 (rows.length - 1) lt_
 rw [show rows.length - 1 = (rows.drop 1).length from List.length_drop.symm, List.take_length] at hro3
 refine JO_weaken (E' := [(0, vG [vL rowsA rows.length rowsC, vS cl, vB inn]), (1, pB b1 0), (2, vL none 0 0), (3, pB b2 0), (4, vL none 0 0), (7, pB b1 0), (8, vL rowsA rows.length rowsC), (9, vL (subA rowsA rowsC 1 2) ((rows.drop 1).length) (rowsC - 1))]) (L' := [Ent.blk b2 79 [vI 0, vI 0], Ent.blk b1 82 [vL rowsA rows.length rowsC, vS cl, vB inn]]) ⟨rfl, rfl, rfl, rfl, rfl, rfl, rfl, (congrArg (fun n : Nat => some (Value.slice (subA rowsA rowsC 1 2) n (rowsC - 1))) (by exact List.length_drop.symm)), trivial⟩ (fun _ h => h) ?_
 refine s_ (lnS Tryd.underlying68) (s_ mv_ (z_ (n_ (k_ ?_))))
 refine J_loop (X := Nat × (List Bytes) × (Option Addr) × Nat) (fun (⟨k, out, outA, outC⟩ : Nat × (List Bytes) × (Option Addr) × Nat) => (R39.InlJ (rows.getD 0 default).number (rows.drop 1) out k) ∧ (out.length = k) ∧ (k ≤ (rows.drop 1).length)) (fun (⟨k, out, outA, outC⟩ : Nat × (List Bytes) × (Option Addr) × Nat) => [(1, pB b1 0), (3, pB b2 0), (4, vL outA out.length outC), (9, vL (subA rowsA rowsC 1 2) ((rows.drop 1).length) (rowsC - 1)), (10, vI (((rows.drop 1).length : Nat) : Int)), (11, vI ((k : Nat) : Int))]) (fun (⟨k, out, outA, outC⟩ : Nat × (List Bytes) × (Option Addr) × Nat) => [Ent.blk b2 79 [vI 0, vI 0], Ent.blk b1 82 [vL rowsA rows.length rowsC, vS cl, vB inn], Ent.row (.slice outA out.length outC) 9 1 out.length (out.map vS)]) (fun (⟨k, out, outA, outC⟩ : Nat × (List Bytes) × (Option Addr) × Nat) => (rows.drop 1).length - k) ((0, ([] : List Bytes), none, 0) : Nat × (List Bytes) × (Option Addr) × Nat) ?_ ⟨rfl, rfl, rfl, rfl, rfl, rfl, trivial⟩ (fun _ h => (((h.nilrow 9 1).front 2 _ rfl).front 2 _ rfl).keep [true, true, true] rfl) ?_
 ·try dsimp only
  refine ⟨?_, ?_, ?_⟩
  ·exact R39.InlJ.start
  ·rfl
  ·omega
 rintro ⟨k, out, outA, outC⟩ hI1
 obtain ⟨i1_0, i1_1, i1_2⟩ := hI1
 try dsimp only at i1_0
 try dsimp only at i1_1
 try dsimp only at i1_2
 have hdl := List.length_drop (i := 1) (l := rows)
 try dsimp only
 refine q_ (g_ (s_ (x_lss_i rfl rfl) (z_ (n_ (q_ ?_)))))
 refine ifd (fun h4w h4 => ?_) (fun h4w h4 => ?_)
 ·refine sk_ (n_ (q_ (k_ (q_ (g_ (r_ (ixF Row.enc_len (cells_ro hro3) Tryd.underlying68 Ty.sz73) (r_ (ldFN Row.enc_len (cells_ro hro3) Ty.ag73 Ty.sz73) (o_ (al_ Ty.ze73 fun b5 => ?_)))))))))
  refine o_ (stG 0 Ty.sz73 ?_)
  refine z_ (n_ (q_ (k_ (q_ (g_ (s_ (fA 1 Ty.fi73_1) (r_ (ld_ 0 Ty.sc9) (js_ (vB (decide (((rows.drop 1).getD k default).text = ([47, 42] : Bytes)))) (x_eql_s rfl rfl) (s_ av_ (z_ (n_ ?_)))))))))))
  refine ifd (fun h6w h6 => ?_) (fun h6w h6 => ?_)
  ·refine q_ (g_ (s_ mv_ (js_ (vG [vI 0, vI 0]) (x_build (by kernel_rfl)) (s_ av_ (o_ (stG 1 Ty.sz79 ?_))))))
   refine z_ (n_ (rt_ (kq_ (nr_ (kq_ (nr_ (rr_ (kq_ (nr_ ?_)))))))))
   refine JX_retsD [_, _] (Value.tuple #[_, _]) Tryd.results101 (fun w h => ⟨rfl, ⟨_, rfl, load_blkN 1 [vI 0, vI 0] h rfl Ty.ag79 Ty.sz79 rfl⟩, trivial⟩) rfl _ (fun _ h => h.keep [false, false, false, false] rfl) (fun _ _ h => h) (fun wx hw => ⟨out, outA, outC, ?_, ?_, (RO.of_rowF (Lc := []) hw hw 3 rfl), (row_le (hw.mem (j := 3) rfl)), ?_, ?_⟩)
   ·have e_x0 : (0 : Int) = (R39.resN (R39.inl (rows.getD 0 default).number 0 (rows.drop 1))) := by first | rfl | exact R39.resN_ok (i1_0.stop (by omega) (by assumption)) | exact R39.resC_ok (i1_0.stop (by omega) (by assumption)) | exact R39.resN_er (i1_0.big (by omega) i1_1 (by assumption) (by assumption)) | exact R39.resC_er (i1_0.big (by omega) i1_1 (by assumption) (by assumption)) | exact R39.resN_er (i1_0.out_ (by omega)) | exact R39.resC_er (i1_0.out_ (by omega))
    have e_x1 : (0 : Int) = (R39.resC (R39.inl (rows.getD 0 default).number 0 (rows.drop 1))) := by first | rfl | exact R39.resN_ok (i1_0.stop (by omega) (by assumption)) | exact R39.resC_ok (i1_0.stop (by omega) (by assumption)) | exact R39.resN_er (i1_0.big (by omega) i1_1 (by assumption) (by assumption)) | exact R39.resC_er (i1_0.big (by omega) i1_1 (by assumption) (by assumption)) | exact R39.resN_er (i1_0.out_ (by omega)) | exact R39.resC_er (i1_0.out_ (by omega))
    have e_all := (congr (congrArg (fun (x0 : Int) (x1 : Int) => Value.tuple #[vL outA out.length outC, vG [vI x0, vI x1]]) e_x0) e_x1)
    exact e_all
   ·rfl
   ·exact c39d2_
   ·exact c39d3_
  ·refine q_ (g_ (s_ mv_ (s_ (lnS Tryd.underlying24) (s_ (x_geq_i rfl rfl) (s_ mv_ ?_)))))
   refine or_ 4 (decide ((200 : Int) < (((((rows.drop 1).getD k default).text).length : Nat) : Int))) (fun g7 => ?_) ?_
   ·have g7r := g7
    have g7r := of_decide_eq_false g7r
    refine sg_ g7 (fA 1 Ty.fi73_1) (rg_ g7 (ld_ 0 Ty.sc9) (sg_ g7 (x_len_s rfl Tryd.underlying9) (sg_ g7 (x_gtr_i rfl rfl) ?_)))
    exact cr_
   refine s_ av_ (z_ (n_ ?_))
   refine if_ (fun h8 => ?_) (fun h8 => ?_)
   ·have h8w := h8
    simp only [Bool.and_eq_true, Bool.or_eq_true, Bool.and_eq_false_iff, Bool.or_eq_false_iff, Bool.not_eq_true', Bool.not_eq_false', decide_eq_true_eq, decide_eq_false_iff_not] at h8
    refine q_ ?_
    refine drU [Ent.blk b5 73 [vI (((rows.drop 1).getD k default).number), vS (((rows.drop 1).getD k default).text)], Ent.blk b1 82 [vL rowsA rows.length rowsC, vS cl, vB inn], Ent.row (.slice outA out.length outC) 9 1 out.length (out.map vS)] [4] 5 Ty.mixed ?_
    refine jp_ 0 rfl (fA 0 Ty.fi73_0) (jq_ 1 rfl (ld_ 0 Ty.sc3) ?_)
    refine jt_ 2 (vG [vI (((rows.drop 1).getD k default).number), vI 8]) rfl (fun _ _ => x_build (by kernel_rfl)) ?_
    refine jp_ 3 rfl av_ (j1_ 4 (jio_ rfl (stG 1 Ty.sz79 ?_)) (fun _ h => ⟨h.keep [true, false, true, true] rfl, fun _ => h⟩))
    refine JA_done (by kernel_rfl) (gl_ rfl (fun _ h => h.keep [true, false, true, true] rfl)) ?_
    refine n_ (rt_ (kq_ (nr_ (kq_ (nr_ (rr_ (kq_ (nr_ ?_))))))))
    refine JX_retsB [_, _] (Value.tuple #[_, _]) Tryd.results101 (fun w h => ⟨rfl, ⟨_, rfl, load_blkN 1 [vI (((rows.drop 1).getD k default).number), vI 8] h rfl Ty.ag79 Ty.sz79 rfl⟩, trivial⟩) rfl _ (fun _ h => h.keep [false, false, false, false] rfl) (fun _ _ h => h) (fun wx hw => ⟨([] : List Bytes), none, 0, ?_, ?_, RO.nil, (Nat.zero_le _), ?_, ?_⟩)
    ·have e_x0 : (0 : Nat) = (([] : List Bytes).length) := by first | rfl | exact R39.resN_ok (i1_0.stop (by omega) (by assumption)) | exact R39.resC_ok (i1_0.stop (by omega) (by assumption)) | exact R39.resN_er (i1_0.big (by omega) i1_1 (by assumption) (by assumption)) | exact R39.resC_er (i1_0.big (by omega) i1_1 (by assumption) (by assumption)) | exact R39.resN_er (i1_0.out_ (by omega)) | exact R39.resC_er (i1_0.out_ (by omega))
     have e_x1 : (((rows.drop 1).getD k default).number : Int) = (R39.resN (R39.inl (rows.getD 0 default).number 0 (rows.drop 1))) := by first | rfl | exact R39.resN_ok (i1_0.stop (by omega) (by assumption)) | exact R39.resC_ok (i1_0.stop (by omega) (by assumption)) | exact R39.resN_er (i1_0.big (by omega) i1_1 (by assumption) (by assumption)) | exact R39.resC_er (i1_0.big (by omega) i1_1 (by assumption) (by assumption)) | exact R39.resN_er (i1_0.out_ (by omega)) | exact R39.resC_er (i1_0.out_ (by omega))
     have e_x2 : (8 : Int) = (R39.resC (R39.inl (rows.getD 0 default).number 0 (rows.drop 1))) := by first | rfl | exact R39.resN_ok (i1_0.stop (by omega) (by assumption)) | exact R39.resC_ok (i1_0.stop (by omega) (by assumption)) | exact R39.resN_er (i1_0.big (by omega) i1_1 (by assumption) (by assumption)) | exact R39.resC_er (i1_0.big (by omega) i1_1 (by assumption) (by assumption)) | exact R39.resN_er (i1_0.out_ (by omega)) | exact R39.resC_er (i1_0.out_ (by omega))
     have e_all := (congr (congr (congrArg (fun (x0 : Nat) (x1 : Int) (x2 : Int) => Value.tuple #[vL none x0 0, vG [vI x1, vI x2]]) e_x0) e_x1) e_x2)
     exact e_all
    ·rfl
    ·exact c39d2_
    ·exact c39d3_
   ·have h8w := h8
    have ⟨h8, h9⟩ := bor_false h8
    have h8 := of_decide_eq_false h8
    have h9 := of_decide_eq_false h9
    refine sk_ (kx_ (n_ (g_ (s_ mv_ (s_ (fA 1 Ty.fi73_1) (r_ (ld_ 0 Ty.sc9) (o_ (O_buildSlice (cs := [vS (((rows.drop 1).getD k default).text)]) Tryd.underlying24 Ty.sz9 Ty.ze9 (by decide) (by decide) (by kernel_rfl) fun b10 => ?_))))))))
    refine o_ (O_append_m 4 vS out [((rows.drop 1).getD k default).text] Tryd.underlying24 Ty.sz9 Ty.by9 Ty.ze9 rfl rfl rfl rfl rfl (fun _ => rfl) (cells_blk 0 (off := 0) (m := 1) rfl rfl) lt_ lt_ fun A11 c12 => ?_)
    refine s_ av_ (z_ (kx_ (n_ (g_ (s_ (x_add_n (a := k) (b := 1) rfl rfl (by omega)) (s_ mv_ (z_ ?_)))))))
    refine JX_round ((k + 1, out ++ [((rows.drop 1).getD k default).text], A11, c12) : Nat × (List Bytes) × (Option Addr) × Nat) ?_ ?_ ⟨rfl, rfl, rfl, rfl, rfl, rfl, trivial⟩ (fun _ h => h.keep [false, false, true, true, true] rfl)
    ·try dsimp only
     refine ⟨?_, ?_, ?_⟩
     ·exact i1_0.step (by omega) i1_1 (by assumption) (by assumption)
     ·rw [List.length_append, List.length_singleton]; omega
     ·omega
    ·try dsimp only
     first | omega | (simp; omega) | (simp_all; omega)
 ·refine J_exit (ne_ (re_ (kh_ (n_ (q_ ?_)))))
  refine g_ (r_ (ldN 1 [vL rowsA rows.length rowsC, vS cl, vB inn] Ty.ag82 Ty.sz82) (c0 (cl_ Ty.ca91) (fun w hS => f91_ok rows _ _ cl inn 3 w (rno rowsR hS) hy_) (s_ av_ (o_ (stG 0 Ty.sz79 ?_)))))
  refine z_ (n_ (rt_ ?_))
  refine JX_retsB [_, _] (Value.tuple #[_, _]) Tryd.results101 (fun w h => ⟨rfl, ⟨_, rfl, load_blkN 0 [vI ((rows.getD 0 default).number), vI 3] h rfl Ty.ag79 Ty.sz79 rfl⟩, trivial⟩) rfl _ (fun _ h => h.keep [false, false, false] rfl) (fun _ _ h => h) (fun wx hw => ⟨([] : List Bytes), none, 0, ?_, ?_, RO.nil, (Nat.zero_le _), ?_, ?_⟩)
  ·have e_x0 : (0 : Nat) = (([] : List Bytes).length) := by first | rfl | exact R39.resN_ok (i1_0.stop (by omega) (by assumption)) | exact R39.resC_ok (i1_0.stop (by omega) (by assumption)) | exact R39.resN_er (i1_0.big (by omega) i1_1 (by assumption) (by assumption)) | exact R39.resC_er (i1_0.big (by omega) i1_1 (by assumption) (by assumption)) | exact R39.resN_er (i1_0.out_ (by omega)) | exact R39.resC_er (i1_0.out_ (by omega))
   have e_x1 : ((rows.getD 0 default).number : Int) = (R39.resN (R39.inl (rows.getD 0 default).number 0 (rows.drop 1))) := by first | rfl | exact R39.resN_ok (i1_0.stop (by omega) (by assumption)) | exact R39.resC_ok (i1_0.stop (by omega) (by assumption)) | exact R39.resN_er (i1_0.big (by omega) i1_1 (by assumption) (by assumption)) | exact R39.resC_er (i1_0.big (by omega) i1_1 (by assumption) (by assumption)) | exact R39.resN_er (i1_0.out_ (by omega)) | exact R39.resC_er (i1_0.out_ (by omega))
   have e_x2 : (3 : Int) = (R39.resC (R39.inl (rows.getD 0 default).number 0 (rows.drop 1))) := by first | rfl | exact R39.resN_ok (i1_0.stop (by omega) (by assumption)) | exact R39.resC_ok (i1_0.stop (by omega) (by assumption)) | exact R39.resN_er (i1_0.big (by omega) i1_1 (by assumption) (by assumption)) | exact R39.resC_er (i1_0.big (by omega) i1_1 (by assumption) (by assumption)) | exact R39.resN_er (i1_0.out_ (by omega)) | exact R39.resC_er (i1_0.out_ (by omega))
   have e_all := (congr (congr (congrArg (fun (x0 : Nat) (x1 : Int) (x2 : Int) => Value.tuple #[vL none x0 0, vG [vI x1, vI x2]]) e_x0) e_x1) e_x2)
   exact e_all
  ·rfl
  ·exact c39d2_
  ·exact c39d3_
set_option maxRecDepth 20000 in
theorem f90_ok (r : Nat) (sy : Value) (pr : Value) (o : List Statement) (oA : Option Addr) (oC : Nat) (oN : Nat) (rows : List Row) (rowsA : Option Addr) (rowsC : Nat) (cl : Bytes) (inn : Bool) (ws : List Bytes) (wsA : Option Addr) (wsC : Nat) (w : World) (rowsR : RO (Lown [Ent.blk r 77 [sy, pr, vL oA oN oC], Ent.row (.slice oA oN oC) 40 4 oN (o.flatMap Statement.enc)]) w rowsA (rows.flatMap Row.enc)) (wsR : RO (Lown [Ent.blk r 77 [sy, pr, vL oA oN oC], Ent.row (.slice oA oN oC) 40 4 oN (o.flatMap Statement.enc)]) w wsA (ws.map vS)) (oQ : oN = o.length) (q0 : 0 < rows.length) (q1 : rows.length ≤ rowsC) (q2 : rows.length ≤ 100000) (q3 : 0 < ws.length) (q4 : ws.length ≤ 1000000) (q5 : o.length ≤ 400) (hg : Give (Lown [Ent.blk r 77 [sy, pr, vL oA oN oC], Ent.row (.slice oA oN oC) 40 4 oN (o.flatMap Statement.enc)]) w [Ent.blk r 77 [sy, pr, vL oA oN oC], Ent.row (.slice oA oN oC) 40 4 oN (o.flatMap Statement.enc)]) : Calls Tryd.prog 90 #[pB r 0, vG [vL rowsA rows.length rowsC, vS cl, vB inn], vL wsA ws.length wsC] w (GivesW (Lown [Ent.blk r 77 [sy, pr, vL oA oN oC], Ent.row (.slice oA oN oC) 40 4 oN (o.flatMap Statement.enc)]) w fun v L wx => ∃ n : Int, ∃ fl : Int, ∃ fc : Int, ∃ y : List Statement, ∃ yA : Option Addr, ∃ yC : Nat, ∃ l : List Bytes, ∃ lA : Option Addr, ∃ lC : Nat, v = Value.tuple #[vI n, vG [vI fl, vI fc]] ∧ L = [Ent.blk r 77 [sy, pr, vL yA y.length yC], Ent.row (.slice yA y.length yC) 40 4 y.length (y.flatMap Statement.enc)] ∧ RO (Lown L ++ List.range w.heap.size) wx lA (l.map vS) ∧ l.length ≤ lC ∧ (R39.StmJ (R39.stmN o.length (rows.getD 0 default).number ws (rows.drop 1)) o y (Statement.mk (rows.getD 0 default).number cl ws wsA wsC l lA lC) l n fl fc) ∧ (l.length ≤ 64) ∧ (y.length ≤ 400)) := by
 subst oQ
 refine calls_JW (Lown [Ent.blk r 77 [sy, pr, vL oA o.length oC], Ent.row (.slice oA o.length oC) 40 4 o.length (o.flatMap Statement.enc)]) 70 Tryd.func90 rfl Tryd.ntmps90 [(0, _), (1, _), (2, _)] rfl rfl hg ?_
 refine q_ (g_ (o_ (bxG fun b1 => ?_)))
 refine s_ av_ (o_ (al_ Ty.ze79 fun b2 => ?_))
 refine z_ (n_ (q_ (q_ (g_ (s_ mv_ (s_ (x_nilCheck rfl) (s_ (fA 2 Ty.fi77_2) (r_ (ld_ 2 Ty.sc36) (s_ (lnS Tryd.underlying36) (s_ (x_geq_i rfl rfl) (z_ (n_ ?_))))))))))))
 refine ifd (fun h3w h3 => ?_) (fun h3w h3 => ?_)
 ·refine q_ (g_ (r_ (ldN 1 [vL rowsA rows.length rowsC, vS cl, vB inn] Ty.ag82 Ty.sz82) (c0 (cl_ Ty.ca91) (fun w hS => f91_ok rows _ _ cl inn 8 w (rno rowsR hS) hy_) (s_ av_ (o_ (stG 0 Ty.sz79 ?_))))))
  refine z_ (n_ (rt_ (nr_ ?_)))
  refine JX_retsD [_, _] (Value.tuple #[_, _]) Tryd.results90 (fun w h => ⟨rfl, ⟨_, rfl, load_blkN 0 [vI ((rows.getD 0 default).number), vI 8] h rfl Ty.ag79 Ty.sz79 rfl⟩, trivial⟩) rfl _ (fun _ h => h.keep [false, false, true, true] rfl) (fun _ _ h => h) (fun wx hw => ⟨0, (rows.getD 0 default).number, 8, o, oA, oC, ([] : List Bytes), none, 0, ?_, ?_, RO.nil, (Nat.zero_le _), ?_, ?_, ?_⟩)
  ·rfl
  ·rfl
  ·exact c39d0_
  ·first | assumption | exact Nat.zero_le _
  ·exact c39d1_
 ·refine sk_ (n_ (q_ ?_))
  refine drB [10] 11 Ty.mixed ?_
  refine jp_ 0 rfl (fA 0 Ty.fi82_0) (jq_ 1 rfl (ld_ 1 Ty.sc68) (jq_ 2 rfl (ixF (k := 0) Row.enc_len (cells_ro rowsR) Tryd.underlying68 Ty.sz73) (jp_ 3 rfl (x_fieldAddr Ty.fi73_0 rfl rfl) (jq_ 4 rfl (ldF (k := 0) 0 Row.enc_len (cells_ro rowsR) Ty.sc3) (jp_ 5 rfl (fA 1 Ty.fi82_1) (jq_ 6 rfl (ld_ 1 Ty.sc9) (jp_ 7 rfl mv_ ?_)))))))
  refine jt_ 8 (vG [vI ((rows.getD 0 default).number), vS cl, vL wsA ws.length wsC, vL none 0 0]) rfl (fun _ _ => x_build (by kernel_rfl)) ?_
  refine j1_ 9 (jio_ rfl (al_ Ty.ze40 fun b5 => ?_)) gm_
  refine j1_ 10 (jio_ rfl (stG 0 Ty.sz40 ?_)) (fun _ h => ⟨h.keep [false, true, true, true, true] rfl, fun _ => h.keep [false, true, true, true, true] rfl⟩)
  refine JA_done (by kernel_rfl) (gl_ rfl (fun _ h => h.keep [false, true, true, true, true] rfl)) ?_
  refine n_ (q_ (g_ (s_ av_ (z_ (xk_ [0, 2, 4, 6, 7, 8, 9] ?_)))))
  refine n_ (q_ (q_ (g_ (s_ mv_ (r_ (ixM (k := 0) (cells_ro wsR) Tryd.underlying24 Ty.sz9) (r_ (ldM vS [] (cells_ro wsR) Ty.sc9) (js_ (vB (decide ((ws.getD 0 []) = ([100, 100] : Bytes)))) (x_eql_s rfl rfl) (s_ mv_ ?_))))))))
  refine and_ 3 (decide (((ws.length : Nat) : Int) = 3)) (fun g6 => ?_) ?_
  ·have g6r := g6
   have g6r := of_decide_eq_true g6r
   refine sg_ g6 mv_ (sg_ g6 (lnS Tryd.underlying24) (sg_ g6 (x_eql_i rfl rfl) ?_))
   exact cr_
  refine s_ mv_ ?_
  refine and_ 4 (decide ((ws.getD 2 []) = ([105, 110, 108, 105, 110, 101] : Bytes))) (fun g7 => ?_) ?_
  ·have g7r := g7
   have ⟨g7r, h8⟩ := band_true g7r
   have g7r := of_decide_eq_true g7r
   have h8 := of_decide_eq_true h8
   refine sg_ g7 mv_ (rg_ g7 (ixM (k := 2) (cells_ro wsR) Tryd.underlying24 Ty.sz9) (rg_ g7 (ldM vS [] (cells_ro wsR) Ty.sc9) (jg_ g7 (vB (decide ((ws.getD 2 []) = ([105, 110, 108, 105, 110, 101] : Bytes)))) (x_eql_s rfl rfl) ?_)))
   exact cr_
  refine z_ (n_ ?_)
  refine if_ (fun h9 => ?_) (fun h9 => ?_)
  ·have h9w := h9
   have ⟨h9, h10⟩ := band_true h9
   have ⟨h9, h11⟩ := band_true h9
   have h9 := of_decide_eq_true h9
   have h11 := of_decide_eq_true h11
   have h10 := of_decide_eq_true h10
   refine q_ (g_ (r_ (ldN 2 [vL rowsA rows.length rowsC, vS cl, vB inn] Ty.ag82 Ty.sz82) ?_))
   refine JO_callB [] [] [Ent.blk b5 40 [vI ((rows.getD 0 default).number), vS cl, vL wsA ws.length wsC, vL none 0 0], Ent.blk b2 79 [vI 0, vI 0], Ent.blk b1 82 [vL rowsA rows.length rowsC, vS cl, vB inn], Ent.blk r 77 [sy, pr, vL oA o.length oC], Ent.row (.slice oA o.length oC) 40 4 o.length (o.flatMap Statement.enc)] rfl trivial (fun _ => x_call Ty.ca101 rfl) (fun _ h => h) (fun _ h => by cases h) (fun w hS => f101_ok rows rowsA rowsC cl inn w (rowsR.on hS (fun _ h => by cases h)) hy_ hy_ hy_) ?_
   rintro wc _ _ wbhB14 ⟨rl, rlA, rlC, rfl, rfl, rlR, rlL, hf12, hf13⟩ hc0 hB14
   have rowsR := rowsR.again hB14
   have wsR := wsR.again hB14
   have rlR0 := rlR.mono (lown_rangeF (w00 := w) hc0 hc0.fr.size)
   have rlR := rlR.mono (lown_range hc0)
   refine s_ mv_ (s_ (ex_ 0) (s_ (ex_ 1) (o_ (al_ Ty.ze79 fun b15 => ?_))))
   refine s_ av_ (o_ (stG 0 Ty.sz79 ?_))
   refine z_ (xk_ [0, 6, 7, 8, 9, 11, 10] ?_)
   refine n_ (q_ (q_ (g_ (s_ (fA 1 Ty.fi79_1) (r_ (ld_ 0 Ty.sc25) (s_ (x_neq_i rfl rfl) (z_ (n_ ?_))))))))
   refine ifd (fun h16w h16 => ?_) (fun h16w h16 => ?_)
   ·refine q_ ?_
    refine drU [Ent.blk b15 79 [vI (R39.resN (R39.inl (rows.getD 0 default).number 0 (rows.drop 1))), vI (R39.resC (R39.inl (rows.getD 0 default).number 0 (rows.drop 1)))], Ent.blk b5 40 [vI ((rows.getD 0 default).number), vS cl, vL wsA ws.length wsC, vL none 0 0], Ent.blk b1 82 [vL rowsA rows.length rowsC, vS cl, vB inn], Ent.blk r 77 [sy, pr, vL oA o.length oC], Ent.row (.slice oA o.length oC) 40 4 o.length (o.flatMap Statement.enc)] [2] 3 Ty.mixed ?_
    refine jq_ 0 rfl (ldN 0 [vI (R39.resN (R39.inl (rows.getD 0 default).number 0 (rows.drop 1))), vI (R39.resC (R39.inl (rows.getD 0 default).number 0 (rows.drop 1)))] Ty.ag79 Ty.sz79) (jp_ 1 rfl av_ (j1_ 2 (jio_ rfl (stG 2 Ty.sz79 ?_)) (fun _ h => ⟨h.keep [true, true, false, true, true, true] rfl, fun _ => h⟩)))
    refine JA_done (by kernel_rfl) (gl_ rfl (fun _ h => h.keep [true, true, false, true, true, true] rfl)) ?_
    refine n_ (rt_ (nr_ (nr_ ?_)))
    refine JX_retsD [_, _] (Value.tuple #[_, _]) Tryd.results90 (fun w h => ⟨rfl, ⟨_, rfl, load_blkN 2 [vI (R39.resN (R39.inl (rows.getD 0 default).number 0 (rows.drop 1))), vI (R39.resC (R39.inl (rows.getD 0 default).number 0 (rows.drop 1)))] h rfl Ty.ag79 Ty.sz79 rfl⟩, trivial⟩) rfl _ (fun _ h => h.keep [false, false, false, false, true, true] rfl) (fun _ _ h => (hB14.back _ _ h)) (fun wx hw => ⟨0, R39.resN (R39.inl (rows.getD 0 default).number 0 (rows.drop 1)), R39.resC (R39.inl (rows.getD 0 default).number 0 (rows.drop 1)), o, oA, oC, ([] : List Bytes), none, 0, ?_, ?_, RO.nil, (Nat.zero_le _), ?_, ?_, ?_⟩)
    ·rfl
    ·rfl
    ·exact c39d0_
    ·first | assumption | exact Nat.zero_le _
    ·exact c39d1_
   ·refine sk_ (n_ (g_ (s_ mv_ (s_ mv_ (s_ (lnS Tryd.underlying24) (s_ (x_add_n (a := rl.length) (b := 1) rfl rfl (by omega)) (s_ (fA 3 Ty.fi40_3) (o_ (st1 1 Ty.sz24 ?_)))))))))
    refine s_ av_ (z_ (n_ (q_ ?_)))
    refine drU [] [7, 10] 11 Ty.mixed ?_
    refine jp_ 0 rfl mv_ (jp_ 1 rfl mv_ (jp_ 2 rfl (x_nilCheck rfl) (jp_ 3 rfl (fA 2 Ty.fi77_2) ?_)))
    refine JA_early 4 (vL oA o.length oC) rfl (by kernel_rfl) (by kernel_rfl) (by kernel_rfl) rfl (by kernel_rfl) (fun _ _ _ h => h) rfl trivial (x_load 4 rfl rfl Ty.sc36 rfl) ?_
    refine JA_earlyT 5 (vG [vI ((rows.getD 0 default).number), vS cl, vL wsA ws.length wsC, vL rlA rl.length rlC]) rfl (by kernel_rfl) (by kernel_rfl) (by kernel_rfl) rfl (by kernel_rfl) (fun _ _ _ h => h) rfl trivial (x_loadN 1 [vI ((rows.getD 0 default).number), vS cl, vL wsA ws.length wsC, vL rlA rl.length rlC] rfl rfl Ty.ag40 Ty.sz40 rfl) ?_
    refine j1_ 6 (jio_ rfl (O_buildSlice (cs := [vI ((rows.getD 0 default).number), vS cl, vL wsA ws.length wsC, vL rlA rl.length rlC]) Tryd.underlying36 Ty.sz40 Ty.ze40 (by decide) (by decide) (by kernel_rfl) fun b18 => ?_)) (fun _ h => ⟨h.keep [false, false, false, false, false, false] rfl, fun _ => h⟩)
    refine j1_ 7 (jio_ rfl (O_append_f 6 Statement.enc 4 o [(Statement.mk ((rows.getD 0 default).number) cl ws wsA wsC rl rlA rlC)] Tryd.underlying36 Ty.sz40 Ty.by40 Ty.ze40 rfl (by decide) rfl rfl rfl rfl Statement.enc_len Statement.enc_one (cells_blk 0 (off := 0) (m := 4) rfl rfl) lt_ lt_ fun A21 c22 => ?_)) (fun _ h => ⟨h.keep [false, false, false, false, false, false, false] rfl, fun _ => h.keep [false, true, true, true, true, true, true] rfl⟩)
    refine jp_ 8 rfl (x_nilCheck rfl) (jp_ 9 rfl (fA 2 Ty.fi77_2) (j1_ 10 (jio_ rfl (st1 5 Ty.sz36 ?_)) (gl_ rfl (fun _ h => h.keep [false, false, false, false, false, false, false] rfl))))
    refine JA_done (by kernel_rfl) (gl_ rfl (fun _ h => h.keep [false, false, false, false, false, false, false] rfl)) ?_
    refine n_ (q_ (g_ (s_ mv_ (js_ (vG [vI 0, vI 0]) (x_build (by kernel_rfl)) (s_ av_ (o_ (stG 3 Ty.sz79 ?_)))))))
    refine z_ (xk_ [6, 7] ?_)
    refine n_ (rt_ ?_)
    refine JX_retsD [_, _] (Value.tuple #[_, _]) Tryd.results90 (fun w h => ⟨rfl, ⟨_, rfl, load_blkN 3 [vI 0, vI 0] h rfl Ty.ag79 Ty.sz79 rfl⟩, trivial⟩) rfl _ (fun _ h => h.keep [false, false, false, false, false, true, true] rfl) (fun _ _ h => (hB14.back _ _ h)) (fun wx hw => ⟨((rl.length + 1 : Nat) : Int), 0, 0, o ++ [(Statement.mk ((rows.getD 0 default).number) cl ws wsA wsC rl rlA rlC)], A21, c22, rl, rlA, rlC, ?_, ?_, (rlR0.againF (hw.keep [false, false, false, false, false, true, true] rfl)), (by assumption), ?_, ?_, ?_⟩)
    ·rfl
    ·rfl
    ·exact c39d0_
    ·first | assumption | exact Nat.zero_le _
    ·exact c39d1_
  ·have h9w := h9
   simp only [Bool.and_eq_true, Bool.or_eq_true, Bool.and_eq_false_iff, Bool.or_eq_false_iff, Bool.not_eq_true', Bool.not_eq_false', decide_eq_true_eq, decide_eq_false_iff_not] at h9
   refine sk_ (n_ (q_ ?_))
   refine drU [] [7, 10] 11 Ty.mixed ?_
   refine jp_ 0 rfl mv_ (jp_ 1 rfl mv_ (jp_ 2 rfl (x_nilCheck rfl) (jp_ 3 rfl (fA 2 Ty.fi77_2) ?_)))
   refine JA_early 4 (vL oA o.length oC) rfl (by kernel_rfl) (by kernel_rfl) (by kernel_rfl) rfl (by kernel_rfl) (fun _ _ _ h => h) rfl trivial (x_load 3 rfl rfl Ty.sc36 rfl) ?_
   refine JA_earlyT 5 (vG [vI ((rows.getD 0 default).number), vS cl, vL wsA ws.length wsC, vL none 0 0]) rfl (by kernel_rfl) (by kernel_rfl) (by kernel_rfl) rfl (by kernel_rfl) (fun _ _ _ h => h) rfl trivial (x_loadN 0 [vI ((rows.getD 0 default).number), vS cl, vL wsA ws.length wsC, vL none 0 0] rfl rfl Ty.ag40 Ty.sz40 rfl) ?_
   refine j1_ 6 (jio_ rfl (O_buildSlice (cs := [vI ((rows.getD 0 default).number), vS cl, vL wsA ws.length wsC, vL none 0 0]) Tryd.underlying36 Ty.sz40 Ty.ze40 (by decide) (by decide) (by kernel_rfl) fun b24 => ?_)) (fun _ h => ⟨h.keep [false, false, false, false, false] rfl, fun _ => h⟩)
   refine j1_ 7 (jio_ rfl (O_append_f 5 Statement.enc 4 o [(Statement.mk ((rows.getD 0 default).number) cl ws wsA wsC ([] : List Bytes) none 0)] Tryd.underlying36 Ty.sz40 Ty.by40 Ty.ze40 rfl (by decide) rfl rfl rfl rfl Statement.enc_len Statement.enc_one (cells_blk 0 (off := 0) (m := 4) rfl rfl) lt_ lt_ fun A27 c28 => ?_)) (fun _ h => ⟨h.keep [false, false, false, false, false, false] rfl, fun _ => h.keep [false, true, true, true, true, true] rfl⟩)
   refine jp_ 8 rfl (x_nilCheck rfl) (jp_ 9 rfl (fA 2 Ty.fi77_2) (j1_ 10 (jio_ rfl (st1 4 Ty.sz36 ?_)) (gl_ rfl (fun _ h => h.keep [false, false, false, false, false, false] rfl))))
   refine JA_done (by kernel_rfl) (gl_ rfl (fun _ h => h.keep [false, false, false, false, false, false] rfl)) ?_
   refine n_ (q_ (g_ (s_ mv_ (js_ (vG [vI 0, vI 0]) (x_build (by kernel_rfl)) (s_ av_ (o_ (stG 2 Ty.sz79 ?_)))))))
   refine z_ (xk_ [6, 7] ?_)
   refine n_ (rt_ ?_)
   refine JX_retsD [_, _] (Value.tuple #[_, _]) Tryd.results90 (fun w h => ⟨rfl, ⟨_, rfl, load_blkN 2 [vI 0, vI 0] h rfl Ty.ag79 Ty.sz79 rfl⟩, trivial⟩) rfl _ (fun _ h => h.keep [false, false, false, false, true, true] rfl) (fun _ _ h => h) (fun wx hw => ⟨0, 0, 0, o ++ [(Statement.mk ((rows.getD 0 default).number) cl ws wsA wsC ([] : List Bytes) none 0)], A27, c28, ([] : List Bytes), none, 0, ?_, ?_, RO.nil, (Nat.zero_le _), ?_, ?_, ?_⟩)
   ·rfl
   ·rfl
   ·exact c39d0_
   ·first | assumption | exact Nat.zero_le _
   ·exact c39d1_
end Go.Proofs.YtbfiibgmgopnaaaDoor
