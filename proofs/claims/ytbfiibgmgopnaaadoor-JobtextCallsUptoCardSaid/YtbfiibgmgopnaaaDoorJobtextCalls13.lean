/- Pl39n, C39h, Pl39o in one text. -/
import Derived.Test.YtbfiibgmgopnaaaDoorJobtextCalls12
set_option linter.unusedVariables false
set_option linter.unusedSimpArgs false
namespace Go.Proofs.YtbfiibgmgopnaaaDoor
open Go.GV
namespace R39
abbrev PL := List (Bytes × Proc)
def prcV (x : Proc) : Value := vG (Proc.enc x)
def procE (p : Bytes × Proc) : Bytes × Value := (p.1, prcV p.2)
def PkA (P : PL) (w : World) : Prop := ∀ p ∈ P, Proc.ok p.2 w
def PgA (P : PL) : Prop := ∀ p ∈ P, ShortV p.2.vals ∧ KeysNd p.2.vals ∧ p.2.rows.length ≤ p.2.rowsC ∧ p.2.rows.length ≤ 100000 ∧ ∀ i, (p.2.rows.getD i default).text.length ≤ 20000
def purP (p : Bytes × Proc) : Bytes × Pr := (p.1, ⟨p.2.vals, p.2.rows⟩)
theorem find_pur (P : PL) (k : Bytes) : findP (P.map purP) k = (lookK P k).map fun x => ⟨x.vals, x.rows⟩ := by
  induction P with
  | nil => rfl
  | cons p P ih =>
    unfold findP lookK at *
    rw [List.map_cons, List.find?_cons, List.find?_cons]
    show Option.map _ (match decide (p.1 = k) with | true => some (purP p) | false => _) = _
    cases decide (p.1 = k) with
    | true => rfl
    | false => exact ih
theorem find_some {P : PL} {k : Bytes} (h : (lookK P k).isSome = true) : ∃ x : Proc, lookK P k = some x ∧ ∃ q, (q, x) ∈ P := by
  obtain ⟨x, hx⟩ := Option.isSome_iff_exists.1 h
  refine ⟨x, hx, ?_⟩
  unfold lookK at hx
  cases e : P.find? (fun p => p.1 = k) with
  | none => rw [e] at hx; cases hx
  | some p => rw [e] at hx; cases hx; exact ⟨p.1, List.mem_of_find?_eq_some e⟩
theorem find_none {P : PL} {k : Bytes} (h : (lookK P k).isSome = false) : lookK P k = none := by
  cases e : lookK P k with
  | none => rfl
  | some x => rw [e] at h; cases h
theorem lk_procs (P : PL) (k : Bytes) : lk (P.map procE) k = (lookK P k).map prcV := lk_map prcV k P
theorem lk_p {P : PL} {k : Bytes} {x : Proc} (h : lookK P k = some x) : lk (P.map procE) k = some (prcV x) := by rw [lk_procs, h]; rfl
theorem lk_n {P : PL} {k : Bytes} (h : lookK P k = none) : lk (P.map procE) k = none := by rw [lk_procs, h]; rfl
theorem upd_procs (P : PL) (k : Bytes) (x : Proc) : upd (P.map procE) k (prcV x) = (putK P k x).map procE := upd_map prcV k x P
theorem pk_at {S : List Nat} {w : World} {P : PL} {x : Proc} {q : Bytes} (h : Kp S w (PkA P)) (hm : (q, x) ∈ P) : Kp S w (Proc.ok x) := h.imp fun _ k => k _ hm
theorem mem_short {ws : List Bytes} {B : Nat} (h : ∀ i, (ws.getD i []).length ≤ B) (k : Nat) : ∀ w ∈ ws.drop k, w.length ≤ B := fun w hw => by
  obtain ⟨i, hi, rfl⟩ := List.getElem_of_mem (List.mem_of_mem_drop hw)
  have := h i
  rwa [List.getD_eq_getElem?_getD, List.getElem?_eq_getElem hi] at this
def CallJ (vals V left : List KV) : Prop := ∀ p ∈ V, p ∈ left ∨ (lookK vals p.1).isSome = true
section
variable {vals V left X D : List KV} {p : KV} {n : Nat}
theorem CallJ.start : CallJ vals V V := fun p h => .inl h
theorem CallJ.step (h : CallJ vals V left) (hp : left[n]? = some p) (hs : (lookK vals p.1).isSome = true) : CallJ vals V (left.eraseIdx n) := fun q hq => by
  rcases h q hq with h1 | h1
  · obtain ⟨i, hi, hie⟩ := List.getElem_of_mem h1
    by_cases e : i = n
    · subst e
      rw [List.getElem?_eq_getElem hi, hie] at hp
      injection hp with hp; subst hp
      exact .inr hs
    · exact .inl (List.mem_eraseIdx_iff_getElem?.2 ⟨i, e, by rw [List.getElem?_eq_getElem hi, hie]⟩)
  · exact .inr h1
theorem CallJ.done (h : CallJ vals V left) (h0 : left = []) : V.all (fun q => (look vals q.1).isSome) = true := by
  rw [List.all_eq_true]
  intro q hq
  rcases h q hq with h1 | h1
  · rw [h0] at h1; cases h1
  · exact h1
theorem CallJ.bad (hm : p ∈ V) (hs : (lookK vals p.1).isSome = false) : V.all (fun q => (look vals q.1).isSome) = false := by
  cases e : V.all (fun q => (look vals q.1).isSome) with
  | false => rfl
  | true =>
    have := List.all_eq_true.1 e p hm
    rw [look_eq, hs] at this; cases this
end
section
variable {num : Int} {ws : List Bytes} {m : Syms} {P : PL} {o y N : List Statement} {V : List KV} {x : Proc}
theorem call_words {a b c : Bool} (h : ((decide (((ws.length : Nat) : Int) < 3) || !symV (ws.getD 1 [])) || !symV (ws.getD 2 [])) = true) : ws.length < 3 ∨ symV (ws.getD 1 []) = false ∨ symV (ws.getD 2 []) = false := by
  simp only [Bool.or_eq_true, decide_eq_true_eq, Bool.not_eq_true'] at h
  rcases h with (h | h) | h
  · exact .inl (by omega)
  · exact .inr (.inl h)
  · exact .inr (.inr h)
theorem call_wordsN (h : ((decide (((ws.length : Nat) : Int) < 3) || !symV (ws.getD 1 [])) || !symV (ws.getD 2 [])) = false) : ¬ (ws.length < 3 ∨ symV (ws.getD 1 []) = false ∨ symV (ws.getD 2 []) = false) := by
  simp only [Bool.or_eq_false_iff, decide_eq_false_iff_not, Bool.not_eq_false'] at h
  rintro (h1 | h1 | h1)
  · omega
  · rw [h.1.2] at h1; cases h1
  · rw [h.2] at h1; cases h1
abbrev rsOf (m : Syms) (P : PL) (o : List Statement) : RS := ⟨m, P.map purP, o.map pur⟩
theorem call_e3 (h : ((decide (((ws.length : Nat) : Int) < 3) || !symV (ws.getD 1 [])) || !symV (ws.getD 2 [])) = true) : callV num ws (rsOf m P o) = .error (num, 3) := by
  unfold callV; rw [if_pos (call_words (a := true) (b := true) (c := true) h)]
theorem call_e3v (h : ((decide (((ws.length : Nat) : Int) < 3) || !symV (ws.getD 1 [])) || !symV (ws.getD 2 [])) = false) (hv : (valsV (ws.drop 3)).isSome = false) : callV num ws (rsOf m P o) = .error (num, 3) := by
  unfold callV; rw [if_neg (call_wordsN h)]
  cases e : valsV (ws.drop 3) with
  | none => rfl
  | some v => rw [e] at hv; cases hv
theorem call_e4 (h : ((decide (((ws.length : Nat) : Int) < 3) || !symV (ws.getD 1 [])) || !symV (ws.getD 2 [])) = false) (hv : valsV (ws.drop 3) = some V) (hp : lookK P (ws.getD 2 []) = none) : callV num ws (rsOf m P o) = .error (num, 4) := by
  unfold callV; rw [if_neg (call_wordsN h), hv]
  show (match findP (P.map purP) (ws.getD 2 []) with | none => _ | some p => _) = _
  rw [find_pur, hp]; rfl
theorem call_x (h : ((decide (((ws.length : Nat) : Int) < 3) || !symV (ws.getD 1 [])) || !symV (ws.getD 2 [])) = false) (hv : valsV (ws.drop 3) = some V) (hp : lookK P (ws.getD 2 []) = some x) : callV num ws (rsOf m P o) = if V.all (fun q => (look x.vals q.1).isSome) = true then
          (match readIn (ws.getD 1 []) x.rows ⟨over (over m x.vals) V, P.map purP, o.map pur⟩ with
            | .error e => .error e
            | .ok s' => .ok (0, { s' with syms := m }))
        else .error (num, 4) := by
  unfold callV; rw [if_neg (call_wordsN h), hv]
  show (match findP (P.map purP) (ws.getD 2 []) with | none => _ | some p => _) = _
  rw [find_pur, hp]; rfl
theorem call_e4v (h : ((decide (((ws.length : Nat) : Int) < 3) || !symV (ws.getD 1 [])) || !symV (ws.getD 2 [])) = false) (hv : valsV (ws.drop 3) = some V) (hp : lookK P (ws.getD 2 []) = some x) (ha : V.all (fun q => (look x.vals q.1).isSome) = false) : callV num ws (rsOf m P o) = .error (num, 4) := by
  rw [call_x h hv hp, if_neg (by rw [ha]; decide)]
theorem call_read (h : ((decide (((ws.length : Nat) : Int) < 3) || !symV (ws.getD 1 [])) || !symV (ws.getD 2 [])) = false) (hv : valsV (ws.drop 3) = some V) (hp : lookK P (ws.getD 2 []) = some x) (ha : V.all (fun q => (look x.vals q.1).isSome) = true) {D X : List KV} (hD : lookK D = over m x.vals) (hX : lookK X = over (lookK D) V) {fl fc : Int}
    (hr : ∀ Q, RdJ (readIn (ws.getD 1 []) x.rows ⟨lookK X, Q, o.map pur⟩) fl fc ⟨lookK X, Q, y.map pur⟩) : LnJ (callV num ws (rsOf m P o)) 0 fl fc (rsOf m P y) := by
  rw [call_x h hv hp, if_pos ha]
  have := hr (P.map purP)
  rw [hX, hD] at this
  rcases this with ⟨h1, h2, h3⟩ | ⟨h1, h2⟩
  · rw [h1]; exact .inl ⟨0, rfl, rfl, h2, h3⟩
  · rw [h1]; exact .inr ⟨rfl, h2⟩
theorem callV_rows {s t : RS} {k : Nat} (h : callV num ws s = .ok (k, t)) : k = 0 := by
  unfold callV at h
  split at h
  · cases h
  · split at h
    · cases h
    · split at h
      · cases h
      · split at h
        · split at h
          · cases h
          · cases h; rfl
        · cases h
end
end R39
end Go.Proofs.YtbfiibgmgopnaaaDoor

namespace Go.Proofs.YtbfiibgmgopnaaaDoor
open Go.GV
set_option linter.unusedVariables false
set_option linter.unusedSimpArgs false
theorem c39h0_ {p : Prop} (h : p := by exact R39.shortV_over (i1_0.done left0) (R39.shortV_over hf16 q6 hx1) (R39.valsG_short _ _ _ hf10 R39.shortV_nil (R39.mem_short q5 3))) : p := h
set_option maxHeartbeats 4000000 in
set_option maxRecDepth 20000 in
theorem call_out (r : Nat) (mB : Nat) (M : List (Bytes × Bytes)) (qB : Nat) (P : R39.PL) (o : List Statement) (oA : Option Addr) (oC : Nat) (oN : Nat) (rows : List Row) (rowsA : Option Addr) (rowsC : Nat) (cl : Bytes) (ws : List Bytes) (wsA : Option Addr) (wsC : Nat) (w : World) (rowsR : RO (Lown [Ent.blk r 77 [Value.map (some mB), Value.map (some qB), vL oA oN oC], Ent.mp vS mB (M.map kvS), Ent.mp vS qB (P.map R39.procE), Ent.row (.slice oA oN oC) 40 4 oN (o.flatMap Statement.enc)]) w rowsA (rows.flatMap Row.enc)) (wsR : RO (Lown [Ent.blk r 77 [Value.map (some mB), Value.map (some qB), vL oA oN oC], Ent.mp vS mB (M.map kvS), Ent.mp vS qB (P.map R39.procE), Ent.row (.slice oA oN oC) 40 4 oN (o.flatMap Statement.enc)]) w wsA (ws.map vS)) (PN : Kp (Lown [Ent.blk r 77 [Value.map (some mB), Value.map (some qB), vL oA oN oC], Ent.mp vS mB (M.map kvS), Ent.mp vS qB (P.map R39.procE), Ent.row (.slice oA oN oC) 40 4 oN (o.flatMap Statement.enc)]) w (R39.PkA P)) (hT : Tab (Lown [Ent.blk r 77 [Value.map (some mB), Value.map (some qB), vL oA oN oC], Ent.mp vS mB (M.map kvS), Ent.mp vS qB (P.map R39.procE), Ent.row (.slice oA oN oC) 40 4 oN (o.flatMap Statement.enc)]) w) (oQ : oN = o.length) (q0 : 0 < rows.length) (q1 : rows.length ≤ rowsC) (q2 : rows.length ≤ 100000) (q3 : 0 < ws.length) (q4 : ws.length ≤ 1000000 ∧ ws.length ≤ wsC) (q5 : ∀ i, (ws.getD i []).length ≤ 20000) (q6 : R39.ShortV M) (q7 : o.length ≤ 400) (PG : R39.PgA P) (hg : Give (Lown [Ent.blk r 77 [Value.map (some mB), Value.map (some qB), vL oA oN oC], Ent.mp vS mB (M.map kvS), Ent.mp vS qB (P.map R39.procE), Ent.row (.slice oA oN oC) 40 4 oN (o.flatMap Statement.enc)]) w [Ent.blk r 77 [Value.map (some mB), Value.map (some qB), vL oA oN oC], Ent.mp vS mB (M.map kvS), Ent.mp vS qB (P.map R39.procE), Ent.row (.slice oA oN oC) 40 4 oN (o.flatMap Statement.enc)]) : Calls Tryd.prog 89 #[pB r 0, vG [vL rowsA rows.length rowsC, vS cl, vB false], vL wsA ws.length wsC] w (GivesW (Lown [Ent.blk r 77 [Value.map (some mB), Value.map (some qB), vL oA oN oC], Ent.mp vS mB (M.map kvS), Ent.mp vS qB (P.map R39.procE), Ent.row (.slice oA oN oC) 40 4 oN (o.flatMap Statement.enc)]) w fun v L wx => ∃ fl : Int, ∃ fc : Int, ∃ y : List Statement, ∃ yA : Option Addr, ∃ yC : Nat, ∃ N : List Statement, v = Value.tuple #[vI 0, vG [vI fl, vI fc]] ∧ L = [Ent.blk r 77 [Value.map (some mB), Value.map (some qB), vL yA y.length yC], Ent.mp vS mB (M.map kvS), Ent.mp vS qB (P.map R39.procE), Ent.row (.slice yA y.length yC) 40 4 y.length (y.flatMap Statement.enc)] ∧ Kp (Lown L ++ List.range w.heap.size) wx (okL Statement.ok N) ∧ (y = o ++ N) ∧ (y.length ≤ 400) ∧ (R39.LnJ (R39.callV (rows.getD 0 default).number ws (R39.rsOf (lookK M) P o)) 0 fl fc (R39.rsOf (lookK M) P (o ++ N)))) := by
 subst oQ
 have hw1 := q5 1
 have hw2 := q5 2
 refine calls_JW (Lown [Ent.blk r 77 [Value.map (some mB), Value.map (some qB), vL oA o.length oC], Ent.mp vS mB (M.map kvS), Ent.mp vS qB (P.map R39.procE), Ent.row (.slice oA o.length oC) 40 4 o.length (o.flatMap Statement.enc)]) 114 Tryd.func89 rfl Tryd.ntmps89 [(0, _), (1, _), (2, _)] rfl rfl hg ?_
 refine q_ (g_ (o_ (bxG fun b1 => ?_)))
 refine s_ av_ (o_ (al_ Ty.ze79 fun b2 => ?_))
 refine z_ (n_ (q_ (q_ (g_ (s_ (fA 2 Ty.fi82_2) (r_ (ld_ 1 Ty.sc4) (z_ (n_ (iff_ (sk_ (n_ (q_ (q_ (g_ (s_ mv_ (s_ (lnS Tryd.underlying24) (s_ (x_lss_i rfl rfl) (s_ mv_ ?_))))))))))))))))))
 refine or_ 5 (!(R39.symV (ws.getD 1 []))) (fun g3 => ?_) ?_
 ·have g3r := g3
  have g3r := of_decide_eq_false g3r
  refine sg_ g3 mv_ (rg_ g3 (ixM (k := 1) (cells_ro wsR) Tryd.underlying24 Ty.sz9) (rg_ g3 (ldM vS [] (cells_ro wsR) Ty.sc9) (c0g g3 (cl_ Ty.ca30) (fun w hS => f30_ok _ w (hT.on hS (fun _ h => by cases h)) hy_) (sg_ g3 (x_not rfl) ?_))))
  exact cr_
 refine s_ mv_ ?_
 refine or_ 5 (!(R39.symV (ws.getD 2 []))) (fun g4 => ?_) ?_
 ·have g4r := g4
  have ⟨g4r, h5⟩ := bor_false g4r
  have g4r := of_decide_eq_false g4r
  have h5 : (R39.symV (ws.getD 1 [])) = true := bnot_false h5
  refine sg_ g4 mv_ (rg_ g4 (ixM (k := 2) (cells_ro wsR) Tryd.underlying24 Ty.sz9) (rg_ g4 (ldM vS [] (cells_ro wsR) Ty.sc9) (c0g g4 (cl_ Ty.ca30) (fun w hS => f30_ok _ w (hT.on hS (fun _ h => by cases h)) hy_) (sg_ g4 (x_not rfl) ?_))))
  exact cr_
 refine z_ (n_ ?_)
 refine if_ (fun h6 => ?_) (fun h6 => ?_)
 ·have h6w := h6
  simp only [Bool.and_eq_true, Bool.or_eq_true, Bool.and_eq_false_iff, Bool.or_eq_false_iff, Bool.not_eq_true', Bool.not_eq_false', decide_eq_true_eq, decide_eq_false_iff_not] at h6
  refine q_ (g_ (r_ (ldN 1 [vL rowsA rows.length rowsC, vS cl, vB false] Ty.ag82 Ty.sz82) (c0 (cl_ Ty.ca91) (fun w hS => f91_ok rows _ _ cl _ 3 w (rno rowsR hS) hy_) (s_ av_ (o_ (stG 0 Ty.sz79 ?_))))))
  refine z_ (n_ (rt_ (nr_ ?_)))
  refine JX_retsD [_, _] (Value.tuple #[_, _]) Tryd.results89 (fun w h => ⟨rfl, ⟨_, rfl, load_blkN 0 [vI ((rows.getD 0 default).number), vI 3] h rfl Ty.ag79 Ty.sz79 rfl⟩, trivial⟩) rfl _ (fun _ h => h.keep [false, false, true, true, true, true] rfl) (fun _ _ h => h) (fun wx hw => ⟨(rows.getD 0 default).number, 3, o, oA, oC, ([] : List Statement), ?_, ?_, R39.okN_nil, ?_, ?_, ?_⟩)
  ·rfl
  ·rfl
  ·first | exact (List.append_nil o).symm | assumption
  ·first | assumption | omega
  ·first
    | (rw [List.append_nil]; first | exact .err (R39.call_e3 (by assumption)) (by decide) | exact .err (R39.call_e3v (by assumption) hv9) (by decide) | exact .err (R39.call_e4 (by assumption) no_such_condition hxn) (by decide) | exact .err (R39.call_e4v (by assumption) no_such_condition hxp (R39.CallJ.bad (i1_0.1 _ leftm) (by assumption))) (by decide))
    | exact R39.call_read (by assumption) no_such_condition hxp (i1_1.done left0) no_such_condition (i1_0.done left0) no_such_condition
 ·have h6w := h6
  have ⟨h6, h7⟩ := bor_false h6
  have ⟨h6, h8⟩ := bor_false h6
  have h6 := of_decide_eq_false h6
  have h8 : (R39.symV (ws.getD 1 [])) = true := bnot_false h8
  have h7 : (R39.symV (ws.getD 2 [])) = true := bnot_false h7
  refine sk_ (n_ (q_ ?_))
  rcases Bool.eq_false_or_eq_true (R39.valsV (ws.drop 3)).isSome with hv9 | hv9
  ·refine g_ (s_ mv_ (s_ (x_subrow (lo := 3) (hi := ws.length) rfl Tryd.underlying24 Ty.sz9 (.inl rfl) (.inr ⟨rfl, rfl⟩) lt_ lt_) ?_))
   have hro9 := RO.subM wsR wsC 3 (ws.length - 3) lt_
   rw [show ws.length - 3 = (ws.drop 3).length from List.length_drop.symm, List.take_length] at hro9
   refine JO_weaken (E' := [(0, pB r 0), (1, vG [vL rowsA rows.length rowsC, vS cl, vB false]), (2, vL wsA ws.length wsC), (4, pB b1 0), (6, vI 0), (7, pB b2 0), (18, pB b1 2), (19, vB false), (22, vL wsA ws.length wsC), (23, vI ((ws.length : Nat) : Int)), (24, vB (decide (((ws.length : Nat) : Int) < 3))), (25, vB (decide (((ws.length : Nat) : Int) < 3))), (31, vB ((decide (((ws.length : Nat) : Int) < 3)) || (!(R39.symV (ws.getD 1 []))))), (32, vB ((decide (((ws.length : Nat) : Int) < 3)) || (!(R39.symV (ws.getD 1 []))))), (38, vB (((decide (((ws.length : Nat) : Int) < 3)) || (!(R39.symV (ws.getD 1 [])))) || (!(R39.symV (ws.getD 2 []))))), (42, vL wsA ws.length wsC), (43, vL (subA wsA wsC 3 1) ((ws.drop 3).length) (wsC - 3))]) (L' := [Ent.blk b2 79 [vI 0, vI 0], Ent.blk b1 82 [vL rowsA rows.length rowsC, vS cl, vB false], Ent.blk r 77 [Value.map (some mB), Value.map (some qB), vL oA o.length oC], Ent.mp vS mB (M.map kvS), Ent.mp vS qB (P.map R39.procE), Ent.row (.slice oA o.length oC) 40 4 o.length (o.flatMap Statement.enc)]) ⟨rfl, rfl, rfl, rfl, rfl, rfl, rfl, rfl, rfl, rfl, rfl, rfl, rfl, rfl, rfl, rfl, (congrArg (fun n : Nat => some (Value.slice (subA wsA wsC 3 1) n (wsC - 3))) (by exact List.length_drop.symm)), trivial⟩ (fun _ h => h) ?_
   refine JO_callB [] [] [Ent.blk b2 79 [vI 0, vI 0], Ent.blk b1 82 [vL rowsA rows.length rowsC, vS cl, vB false], Ent.blk r 77 [Value.map (some mB), Value.map (some qB), vL oA o.length oC], Ent.mp vS mB (M.map kvS), Ent.mp vS qB (P.map R39.procE), Ent.row (.slice oA o.length oC) 40 4 o.length (o.flatMap Statement.enc)] rfl trivial (fun _ => x_call Ty.ca98 rfl) (fun _ h => h) (fun _ h => by cases h) (fun w hS => vals_ok _ _ _ w (hro9.on hS (fun _ h => by cases h)) (hT.on hS (fun _ h => by cases h)) hy_ hy_ hy_) ?_
   rintro wc _ _ wbhB11 ⟨rV, rVB, rfl, rfl, rVR, hf10⟩ hc0 hB11
   have rowsR := rowsR.again hB11
   have wsR := wsR.again hB11
   have hro9 := hro9.again hB11
   have hT := hT.again hB11
   have PN := PN.again hB11
   have rVR0 := rVR.mono (lown_rangeAF (w00 := w) hc0 hc0.fr.size)
   have rVR := rVR.mono (lown_rangeA hc0)
   refine s_ mv_ (s_ (ex_ 0) (s_ (ex_ 1) (s_ av_ (s_ av_ (z_ (xk_ [0, 2, 4, 6, 7, 8, 9] ?_))))))
   refine n_ (q_ (q_ (g_ (s_ mv_ (jr_ (vB false) (z_ (n_ (iff_ (sk_ (n_ (q_ ?_)))))))))))
   rcases Bool.eq_false_or_eq_true (lookK P (ws.getD 2 [])).isSome with hp9 | hp9
   ·obtain ⟨xp, hxp, qx, hxm⟩ := R39.find_some hp9
    have hPx := R39.pk_at PN hxm
    have xpR := Kp.ro (hPx.imp fun _ h => h.2)
    have xpV := hPx.imp fun _ h => h.1
    have ⟨hx1, hx2, hx3, hx4, hx5⟩ := PG _ hxm
    refine drB [12] 14 Ty.mixed ?_
    refine jp_ 0 rfl mv_ (jp_ 1 rfl (x_nilCheck rfl) (jp_ 2 rfl (fA 1 Ty.fi77_1) (jq_ 3 rfl (ld_ 2 Ty.sc75) (jp_ 4 rfl mv_ (jq_ 5 rfl (ixM (k := 2) (cells_ro wsR) Tryd.underlying24 Ty.sz9) (jq_ 6 rfl (ldM vS [] (cells_ro wsR) Ty.sc9) ?_))))))
    refine jt_ 7 (Value.tuple #[vG [Value.map (some xp.valsB), vL xp.rowsA xp.rows.length xp.rowsC], vB true]) rfl (x_lookup_okv 4 (f := vS) (k := (ws.getD 2 [])) rfl rfl rfl Tryd.underlying75 (mapK_s Tryd.underlying9) Ty.ze137 (R39.lk_p hxp) rfl rfl) ?_
    refine jp_ 8 rfl mv_ (jp_ 9 rfl (ex_ 0) (jp_ 10 rfl (ex_ 1) (j1_ 11 (jio_ rfl (al_ Ty.ze137 fun b13 => ?_)) gm_)))
    refine j1_ 12 (jio_ rfl (stG 0 Ty.sz137 ?_)) (fun _ h => ⟨h.keep [false, true, true, true, true, true, true] rfl, fun _ => h.keep [false, true, true, true, true, true, true] rfl⟩)
    refine jp_ 13 rfl av_ ?_
    refine JA_done (by kernel_rfl) (gl_ rfl (fun _ h => h.keep [false, true, true, true, true, true, true] rfl)) ?_
    refine n_ (q_ (q_ (g_ (s_ mv_ (jr_ (vB false) (z_ (xk_ [0, 2, 4, 6, 7, 8, 10, 63] ?_)))))))
    refine n_ (iff_ (sk_ (n_ (q_ (g_ (s_ mv_ (s_ (x_nilCheck rfl) (s_ (fA 0 Ty.fi77_0) (r_ (ld_ 3 Ty.sc22) (s_ av_ (z_ (n_ (q_ (g_ (s_ mv_ ?_)))))))))))))))
    refine c1 (cl_ Ty.ca99) (fun w hS => f99_ok M mB w (Kp.of_ent hS 4 rfl)) ?_
    rintro _ _ ⟨e14, rfl, rfl⟩
    refine s_ av_ (z_ (n_ (q_ (g_ (s_ mv_ (s_ (fA 0 Ty.fi137_0) (r_ (ld_ 1 Ty.sc22) ?_)))))))
    refine JO_call [e14] [Ent.mp vS e14 (M.map kvS)] [Ent.blk b13 137 [Value.map (some xp.valsB), vL xp.rowsA xp.rows.length xp.rowsC], Ent.blk b2 79 [vI 0, vI 0], Ent.blk b1 82 [vL rowsA rows.length rowsC, vS cl, vB false], Ent.blk r 77 [Value.map (some mB), Value.map (some qB), vL oA o.length oC], Ent.mp vS mB (M.map kvS), Ent.mp vS qB (P.map R39.procE), Ent.row (.slice oA o.length oC) 40 4 o.length (o.flatMap Statement.enc)] rfl trivial (fun _ => x_call Ty.ca100 rfl) (fun _ h => h) (own_mem rfl) (fun w hS => f100_ok M e14 xp.vals xp.valsB w (xpV.on hS (own_mem rfl)) hy_ (hS.give (own_in rfl))) ?_
    rintro _ _ ⟨e15, rfl, rfl, hf16⟩
    refine z_ (n_ (q_ (q_ (g_ (s_ mv_ (o_ (O_rangeR rVR rfl Tryd.underlying22 fun es17 ck18 it19 hborn20 hmx21 => ?_)))))))
    refine z_ (xk_ [0, 2, 4, 6, 7, 10, 11, 12, 77] ?_)
    refine n_ (k_ ?_)
    refine J_loop (X := (List (Bytes × Bytes)) × (Option (Bytes × Value)) × (List (Bytes × Bytes))) (fun (⟨left, leftC, X⟩ : (List (Bytes × Bytes)) × (Option (Bytes × Value)) × (List (Bytes × Bytes))) => (R39.CopyJ e15 rV left X) ∧ (R39.CallJ xp.vals rV left)) (fun (⟨left, leftC, X⟩ : (List (Bytes × Bytes)) × (Option (Bytes × Value)) × (List (Bytes × Bytes))) => [(0, pB r 0), (2, vL wsA ws.length wsC), (4, pB b1 0), (7, pB b2 0), (10, pB b13 0), (11, Value.map (some mB)), (12, Value.map (some e14)), (77, pB it19 0)]) (fun (⟨left, leftC, X⟩ : (List (Bytes × Bytes)) × (Option (Bytes × Value)) × (List (Bytes × Bytes))) => [Ent.rng vS it19 rVB es17 ck18 (left.map kvS) leftC, Ent.mp vS e14 (X.map kvS), Ent.blk b13 137 [Value.map (some xp.valsB), vL xp.rowsA xp.rows.length xp.rowsC], Ent.blk b2 79 [vI 0, vI 0], Ent.blk b1 82 [vL rowsA rows.length rowsC, vS cl, vB false], Ent.blk r 77 [Value.map (some mB), Value.map (some qB), vL oA o.length oC], Ent.mp vS mB (M.map kvS), Ent.mp vS qB (P.map R39.procE), Ent.row (.slice oA o.length oC) 40 4 o.length (o.flatMap Statement.enc)]) (fun (⟨left, leftC, X⟩ : (List (Bytes × Bytes)) × (Option (Bytes × Value)) × (List (Bytes × Bytes))) => left.length) ((rV, (none : Option (Bytes × Value)), e15) : (List (Bytes × Bytes)) × (Option (Bytes × Value)) × (List (Bytes × Bytes))) ?_ ⟨rfl, rfl, rfl, rfl, rfl, rfl, rfl, rfl, trivial⟩ (fun _ h => h) ?_
    ·try dsimp only
     refine ⟨?_, ?_⟩
     ·exact R39.CopyJ.start
     ·exact R39.CallJ.start
    rintro ⟨left, leftC, X⟩ hI1
    obtain ⟨i1_0, i1_1⟩ := hI1
    try dsimp only at i1_0
    try dsimp only at i1_1
    try dsimp only
    refine q_ (g_ ?_)
    refine JO_op rfl trivial (O_nextR 0 (f := vS) kvS rfl rfl hmx21 hborn20 (fun left0 => ?_) (fun lefta leftn lefth => ?_))
    ·refine s_ (ex_ 0) (z_ (n_ (q_ (iff_ (J_exit (ne_ (re_ (kh_ (n_ (q_ (g_ (s_ mv_ (s_ mv_ (s_ (x_nilCheck rfl) (s_ (fA 0 Ty.fi77_0) (o_ (st1 5 Ty.sz22 ?_)))))))))))))))))
     refine z_ (n_ (q_ ?_))
     refine drU [] [7, 9] 10 Ty.mixed ?_
     refine jp_ 0 rfl mv_ (jp_ 1 rfl (fA 1 Ty.fi137_1) ?_)
     refine JA_earlyT 2 (vL xp.rowsA xp.rows.length xp.rowsC) rfl (by kernel_rfl) (by kernel_rfl) (by kernel_rfl) rfl (by kernel_rfl) (fun _ _ _ h => h) rfl trivial (x_load 2 rfl rfl Ty.sc68 rfl) ?_
     refine jp_ 3 rfl mv_ (jq_ 4 rfl (ixM (k := 1) (cells_ro wsR) Tryd.underlying24 Ty.sz9) (jq_ 5 rfl (ldM vS [] (cells_ro wsR) Ty.sc9) ?_))
     refine jt_ 6 (vG [vL xp.rowsA xp.rows.length xp.rowsC, vS (ws.getD 1 []), vB true]) rfl (fun _ _ => x_build (by kernel_rfl)) ?_
     refine JA_ready (rs := [7, 8]) (by kernel_rfl) (by decide) (fun _ h => ⟨h.keep [false, false, false, false, false, false, false, false, false] rfl, fun _ => h⟩) (List.forall_mem_cons.2 ⟨?_, (List.forall_mem_cons.2 ⟨?_, all_nil⟩)⟩)
     ·refine JI_callB (Lown [Ent.blk r 77 [Value.map (some e14), Value.map (some qB), vL oA o.length oC], Ent.mp vS e14 (X.map kvS), Ent.row (.slice oA o.length oC) 40 4 o.length (o.flatMap Statement.enc)]) [Ent.blk r 77 [Value.map (some e14), Value.map (some qB), vL oA o.length oC], Ent.mp vS e14 (X.map kvS), Ent.row (.slice oA o.length oC) 40 4 o.length (o.flatMap Statement.enc)] [Ent.rng vS it19 rVB es17 ck18 (left.map kvS) leftC, Ent.blk b13 137 [Value.map (some xp.valsB), vL xp.rowsA xp.rows.length xp.rowsC], Ent.blk b2 79 [vI 0, vI 0], Ent.blk b1 82 [vL rowsA rows.length rowsC, vS cl, vB false], Ent.mp vS mB (M.map kvS), Ent.mp vS qB (P.map R39.procE)] rfl rfl trivial (fun _ => x_call Ty.ca39 rfl) (fun _ h => (((((((((h.front 7 _ rfl).front 7 _ rfl).front 6 _ rfl).front 6 _ rfl).front 6 _ rfl).front 5 _ rfl).front 8 _ rfl).front 7 _ rfl).front 8 _ rfl).keep [true, true, true, true, true, true, true, true, true] rfl) lown_mem (fun w hS => read_in r e14 X (Value.map (some qB)) o oA oC o.length xp.rows xp.rowsA xp.rowsC (ws.getD 1 []) w (xpR.on hS lown_mem) (hT.on hS lown_mem) hy_ hy_ hy_ hy_ c39h0_ hy_ (hS.give lown_in)) ?_
      rintro wc _ _ wbhB31 ⟨fl22, fc23, y24, yA25, yC26, N27, rfl, rfl, kf32, hf28, hf29, hf30⟩ hc0 hB31
      have rowsR := rowsR.again hB31
      have wsR := wsR.again hB31
      have hro9 := hro9.again hB31
      have xpR := xpR.again hB31
      have hT := hT.again hB31
      have PN := PN.again hB31
      have hmx21 := hmx21.again hB31
      have rVR0 := rVR0.againF hB31
      have rVR := rVR.again hB31
      have xpV := xpV.again hB31
      have kf320 := kf32.mono (lown_rangeAF (w00 := w) hc0 (hB11.back _ _ hc0).fr.size)
      have kf32 := kf32.mono (lown_rangeA hc0)
      refine j1_ 8 (jio_ rfl (al_ Ty.ze79 fun b34 => ?_)) (gl_ rfl (fun _ h => h.keep [false, false, false, false, false, false, false, false, false] rfl))
      refine j1_ 9 (jio_ rfl (stG 0 Ty.sz79 ?_)) (gl_ rfl (fun _ h => h.keep [false, false, false, false, false, false, false, false, false, false] rfl))
      refine JA_done (by kernel_rfl) (gl_ rfl (fun _ h => h.keep [false, false, false, false, false, false, false, false, false, false] rfl)) ?_
      refine n_ (q_ (g_ (s_ mv_ (s_ mv_ (s_ (x_nilCheck rfl) (s_ (fA 0 Ty.fi77_0) (o_ (st1 1 Ty.sz22 ?_))))))))
      refine z_ (xk_ [7, 17] ?_)
      refine n_ (q_ ?_)
      refine drU [Ent.blk b34 79 [vI fl22, vI fc23], Ent.blk r 77 [Value.map (some mB), Value.map (some qB), vL yA25 y24.length yC26], Ent.mp vS e14 (X.map kvS), Ent.row (.slice yA25 y24.length yC26) 40 4 y24.length (y24.flatMap Statement.enc), Ent.rng vS it19 rVB es17 ck18 (left.map kvS) leftC, Ent.blk b13 137 [Value.map (some xp.valsB), vL xp.rowsA xp.rows.length xp.rowsC], Ent.blk b1 82 [vL rowsA rows.length rowsC, vS cl, vB false], Ent.mp vS mB (M.map kvS), Ent.mp vS qB (P.map R39.procE)] [2] 3 Ty.mixed ?_
      refine jq_ 0 rfl (ldN 0 [vI fl22, vI fc23] Ty.ag79 Ty.sz79) (jp_ 1 rfl av_ (j1_ 2 (jio_ rfl (stG 6 Ty.sz79 ?_)) (fun _ h => ⟨h.keep [true, true, true, true, true, true, false, true, true, true] rfl, fun _ => h⟩)))
      refine JA_done (by kernel_rfl) (gl_ rfl (fun _ h => h.keep [true, true, true, true, true, true, false, true, true, true] rfl)) ?_
      refine n_ (rt_ ?_)
      refine JX_retsD [_, _] (Value.tuple #[_, _]) Tryd.results89 (fun w h => ⟨rfl, ⟨_, rfl, load_blkN 6 [vI fl22, vI fc23] h rfl Ty.ag79 Ty.sz79 rfl⟩, trivial⟩) rfl [Ent.blk r 77 [Value.map (some mB), Value.map (some qB), vL yA25 y24.length yC26], Ent.mp vS mB (M.map kvS), Ent.mp vS qB (P.map R39.procE), Ent.row (.slice yA25 y24.length yC26) 40 4 y24.length (y24.flatMap Statement.enc)] (fun _ h => ((((h.front 3 _ rfl).front 9 _ rfl).front 9 _ rfl).front 4 _ rfl).keep [true, true, true, true, false, false, false, false, false, false] rfl) (fun _ _ h => (hB11.back _ _ (hB31.back _ _ h))) (fun wx hw => ⟨fl22, fc23, y24, yA25, yC26, N27, ?_, ?_, (kf320.againF (((((hw.front 3 _ rfl).front 9 _ rfl).front 9 _ rfl).front 4 _ rfl).keep [true, true, true, true, false, false, false, false, false, false] rfl)), ?_, ?_, ?_⟩)
      ·rfl
      ·rfl
      ·first | exact (List.append_nil o).symm | assumption
      ·first | assumption | omega
      ·first
        | (rw [List.append_nil]; first | exact .err (R39.call_e3 (by assumption)) (by decide) | exact .err (R39.call_e3v (by assumption) hv9) (by decide) | exact .err (R39.call_e4 (by assumption) hf10 hxn) (by decide) | exact .err (R39.call_e4v (by assumption) hf10 hxp (R39.CallJ.bad (i1_0.1 _ leftm) (by assumption))) (by decide))
        | exact R39.call_read (by assumption) hf10 hxp (i1_1.done left0) hf16 (i1_0.done left0) hf30
     ·refine jio_ rfl (al_ Ty.ze79 fun b35 => ?_)
      refine j1_ 7 ?_ (fun _ h => ⟨h.keep [false, false, false, false, false, false, false, false, false, false] rfl, fun _ => h.keep [false, true, true, true, true, true, true, true, true, true] rfl⟩)
      refine JI_callB (Lown [Ent.blk r 77 [Value.map (some e14), Value.map (some qB), vL oA o.length oC], Ent.mp vS e14 (X.map kvS), Ent.row (.slice oA o.length oC) 40 4 o.length (o.flatMap Statement.enc)]) [Ent.blk r 77 [Value.map (some e14), Value.map (some qB), vL oA o.length oC], Ent.mp vS e14 (X.map kvS), Ent.row (.slice oA o.length oC) 40 4 o.length (o.flatMap Statement.enc)] [Ent.blk b35 79 [vI 0, vI 0], Ent.rng vS it19 rVB es17 ck18 (left.map kvS) leftC, Ent.blk b13 137 [Value.map (some xp.valsB), vL xp.rowsA xp.rows.length xp.rowsC], Ent.blk b2 79 [vI 0, vI 0], Ent.blk b1 82 [vL rowsA rows.length rowsC, vS cl, vB false], Ent.mp vS mB (M.map kvS), Ent.mp vS qB (P.map R39.procE)] rfl rfl trivial (fun _ => x_call Ty.ca39 rfl) (fun _ h => ((((((((((h.front 8 _ rfl).front 8 _ rfl).front 7 _ rfl).front 7 _ rfl).front 7 _ rfl).front 6 _ rfl).front 6 _ rfl).front 9 _ rfl).front 8 _ rfl).front 9 _ rfl).keep [true, true, true, true, true, true, true, true, true, true] rfl) lown_mem (fun w hS => read_in r e14 X (Value.map (some qB)) o oA oC o.length xp.rows xp.rowsA xp.rowsC (ws.getD 1 []) w (xpR.on hS lown_mem) (hT.on hS lown_mem) hy_ hy_ hy_ hy_ c39h0_ hy_ (hS.give lown_in)) ?_
      rintro wc _ _ wbhB45 ⟨fl36, fc37, y38, yA39, yC40, N41, rfl, rfl, kf46, hf42, hf43, hf44⟩ hc0 hB45
      have rowsR := rowsR.again hB45
      have wsR := wsR.again hB45
      have hro9 := hro9.again hB45
      have xpR := xpR.again hB45
      have hT := hT.again hB45
      have PN := PN.again hB45
      have hmx21 := hmx21.again hB45
      have rVR0 := rVR0.againF hB45
      have rVR := rVR.again hB45
      have xpV := xpV.again hB45
      have kf460 := kf46.mono (lown_rangeAF (w00 := w) hc0 (hB11.back _ _ hc0).fr.size)
      have kf46 := kf46.mono (lown_rangeA hc0)
      refine j1_ 9 (jio_ rfl (stG 3 Ty.sz79 ?_)) (gl_ rfl (fun _ h => h.keep [false, false, false, false, false, false, false, false, false, false] rfl))
      refine JA_done (by kernel_rfl) (gl_ rfl (fun _ h => h.keep [false, false, false, false, false, false, false, false, false, false] rfl)) ?_
      refine n_ (q_ (g_ (s_ mv_ (s_ mv_ (s_ (x_nilCheck rfl) (s_ (fA 0 Ty.fi77_0) (o_ (st1 0 Ty.sz22 ?_))))))))
      refine z_ (xk_ [7, 17] ?_)
      refine n_ (q_ ?_)
      refine drU [Ent.blk r 77 [Value.map (some mB), Value.map (some qB), vL yA39 y38.length yC40], Ent.mp vS e14 (X.map kvS), Ent.row (.slice yA39 y38.length yC40) 40 4 y38.length (y38.flatMap Statement.enc), Ent.blk b35 79 [vI fl36, vI fc37], Ent.rng vS it19 rVB es17 ck18 (left.map kvS) leftC, Ent.blk b13 137 [Value.map (some xp.valsB), vL xp.rowsA xp.rows.length xp.rowsC], Ent.blk b1 82 [vL rowsA rows.length rowsC, vS cl, vB false], Ent.mp vS mB (M.map kvS), Ent.mp vS qB (P.map R39.procE)] [2] 3 Ty.mixed ?_
      refine jq_ 0 rfl (ldN 3 [vI fl36, vI fc37] Ty.ag79 Ty.sz79) (jp_ 1 rfl av_ (j1_ 2 (jio_ rfl (stG 6 Ty.sz79 ?_)) (fun _ h => ⟨h.keep [true, true, true, true, true, true, false, true, true, true] rfl, fun _ => h⟩)))
      refine JA_done (by kernel_rfl) (gl_ rfl (fun _ h => h.keep [true, true, true, true, true, true, false, true, true, true] rfl)) ?_
      refine n_ (rt_ ?_)
      refine JX_retsD [_, _] (Value.tuple #[_, _]) Tryd.results89 (fun w h => ⟨rfl, ⟨_, rfl, load_blkN 6 [vI fl36, vI fc37] h rfl Ty.ag79 Ty.sz79 rfl⟩, trivial⟩) rfl [Ent.blk r 77 [Value.map (some mB), Value.map (some qB), vL yA39 y38.length yC40], Ent.mp vS mB (M.map kvS), Ent.mp vS qB (P.map R39.procE), Ent.row (.slice yA39 y38.length yC40) 40 4 y38.length (y38.flatMap Statement.enc)] (fun _ h => ((((h.front 2 _ rfl).front 9 _ rfl).front 9 _ rfl).front 3 _ rfl).keep [true, true, true, true, false, false, false, false, false, false] rfl) (fun _ _ h => (hB11.back _ _ (hB45.back _ _ h))) (fun wx hw => ⟨fl36, fc37, y38, yA39, yC40, N41, ?_, ?_, (kf460.againF (((((hw.front 2 _ rfl).front 9 _ rfl).front 9 _ rfl).front 3 _ rfl).keep [true, true, true, true, false, false, false, false, false, false] rfl)), ?_, ?_, ?_⟩)
      ·rfl
      ·rfl
      ·first | exact (List.append_nil o).symm | assumption
      ·first | assumption | omega
      ·first
        | (rw [List.append_nil]; first | exact .err (R39.call_e3 (by assumption)) (by decide) | exact .err (R39.call_e3v (by assumption) hv9) (by decide) | exact .err (R39.call_e4 (by assumption) hf10 hxn) (by decide) | exact .err (R39.call_e4v (by assumption) hf10 hxp (R39.CallJ.bad (i1_0.1 _ leftm) (by assumption))) (by decide))
        | exact R39.call_read (by assumption) hf10 hxp (i1_1.done left0) hf16 (i1_0.done left0) hf44
    ·have leftl := (List.getElem?_eq_some_iff.1 lefth).1
     have lefte := List.length_eraseIdx_of_lt leftl
     have leftm := List.mem_of_getElem? lefth
     refine s_ (ex_ 0) (z_ (n_ (q_ (ift (sk_ (n_ (k_ (q_ (g_ (r_ (O_entryR 0 (f := vS) (p := kvS lefta) rfl rfl hmx21 hborn20) (s_ (ex_ 0) (s_ (ex_ 1) (s_ av_ (s_ av_ (z_ (n_ (q_ (q_ (g_ (s_ (fA 0 Ty.fi137_0) ?_))))))))))))))))))))
     refine r_ (ld_ 2 Ty.sc22) (s_ mv_ ?_)
     refine JO_read (Value.tuple #[vS ((lookK xp.vals lefta.1).getD []), vB ((lookK xp.vals lefta.1).isSome)]) rfl trivial (x_lookup_okR (f := vS) (k := lefta.1) (kp_mp xpV) rfl rfl Tryd.underlying22 (mapK_s Tryd.underlying9) Ty.ze9 (lk_kv xp.vals lefta.1) (getD_kv _) (isSome_mp _ _)) ?_
     refine s_ mv_ (s_ (ex_ 0) (s_ (ex_ 1) (s_ av_ (s_ av_ (z_ (xk_ [0, 2, 4, 7, 10, 11, 12, 77, 13, 14, 16] ?_))))))
     refine n_ (q_ (g_ (s_ mv_ (s_ (x_not rfl) (z_ (n_ ?_))))))
     refine if_ (fun h47 => ?_) (fun h47 => ?_)
     ·have h47w := h47
      have h47 : ((lookK xp.vals lefta.1).isSome) = false := bnot_true h47
      refine q_ (g_ (r_ (ldN 4 [vL rowsA rows.length rowsC, vS cl, vB false] Ty.ag82 Ty.sz82) (c0 (cl_ Ty.ca91) (fun w hS => f91_ok rows _ _ cl _ 4 w (rno rowsR hS) hy_) (s_ av_ (o_ (stG 3 Ty.sz79 ?_))))))
      refine z_ (n_ (rt_ (nr_ (kq_ (rr_ (kq_ (nr_ ?_)))))))
      refine JX_retsD [_, _] (Value.tuple #[_, _]) Tryd.results89 (fun w h => ⟨rfl, ⟨_, rfl, load_blkN 3 [vI ((rows.getD 0 default).number), vI 4] h rfl Ty.ag79 Ty.sz79 rfl⟩, trivial⟩) rfl _ (fun _ h => h.keep [false, false, false, false, false, true, true, true, true] rfl) (fun _ _ h => (hB11.back _ _ h)) (fun wx hw => ⟨(rows.getD 0 default).number, 4, o, oA, oC, ([] : List Statement), ?_, ?_, R39.okN_nil, ?_, ?_, ?_⟩)
      ·rfl
      ·rfl
      ·first | exact (List.append_nil o).symm | assumption
      ·first | assumption | omega
      ·first
        | (rw [List.append_nil]; first | exact .err (R39.call_e3 (by assumption)) (by decide) | exact .err (R39.call_e3v (by assumption) hv9) (by decide) | exact .err (R39.call_e4 (by assumption) hf10 hxn) (by decide) | exact .err (R39.call_e4v (by assumption) hf10 hxp (R39.CallJ.bad (i1_0.1 _ leftm) (by assumption))) (by decide))
        | exact R39.call_read (by assumption) hf10 hxp (i1_1.done left0) hf16 (i1_0.done left0) no_such_condition
     ·have h47w := h47
      have h47 : ((lookK xp.vals lefta.1).isSome) = true := bnot_false h47
      refine sk_ (n_ (g_ (s_ mv_ (s_ mv_ (s_ mv_ (o_ (O_mapUpdate 1 (f := vS) (k := lefta.1) ((putK X lefta.1 lefta.2).map kvS) [Ent.rng vS it19 rVB es17 ck18 ((left.eraseIdx leftn).map kvS) (some (kvS lefta)), Ent.mp vS e14 ((putK X lefta.1 lefta.2).map kvS), Ent.blk b13 137 [Value.map (some xp.valsB), vL xp.rowsA xp.rows.length xp.rowsC], Ent.blk b2 79 [vI 0, vI 0], Ent.blk b1 82 [vL rowsA rows.length rowsC, vS cl, vB false], Ent.blk r 77 [Value.map (some mB), Value.map (some qB), vL oA o.length oC], Ent.mp vS mB (M.map kvS), Ent.mp vS qB (P.map R39.procE), Ent.row (.slice oA o.length oC) 40 4 o.length (o.flatMap Statement.enc)] rfl rfl rfl rfl Tryd.underlying22 (mapK_s Tryd.underlying9) (upd_kv X lefta.1 lefta.2) rfl ?_)))))))
      refine z_ (kx_ ?_)
      refine JX_round (((left.eraseIdx leftn), (some (kvS lefta)), (putK X lefta.1 lefta.2)) : (List (Bytes × Bytes)) × (Option (Bytes × Value)) × (List (Bytes × Bytes))) ?_ ?_ ⟨rfl, rfl, rfl, rfl, rfl, rfl, rfl, rfl, trivial⟩ (fun _ h => h)
      ·try dsimp only
       refine ⟨?_, ?_⟩
       ·exact i1_0.step (R39.valsG_nd _ _ _ hf10 R39.keys_nil) lefth
       ·exact i1_1.step lefth (by assumption)
      ·try dsimp only
       omega
   ·have hxn := R39.find_none hp9
    refine drB [12] 14 Ty.mixed ?_
    refine jp_ 0 rfl mv_ (jp_ 1 rfl (x_nilCheck rfl) (jp_ 2 rfl (fA 1 Ty.fi77_1) (jq_ 3 rfl (ld_ 2 Ty.sc75) (jp_ 4 rfl mv_ (jq_ 5 rfl (ixM (k := 2) (cells_ro wsR) Tryd.underlying24 Ty.sz9) (jq_ 6 rfl (ldM vS [] (cells_ro wsR) Ty.sc9) ?_))))))
    refine jt_ 7 (Value.tuple #[vG [Value.map none, vL none 0 0], vB false]) rfl (x_lookup_okv 4 (f := vS) (k := (ws.getD 2 [])) rfl rfl rfl Tryd.underlying75 (mapK_s Tryd.underlying9) Ty.ze137 (R39.lk_n hxn) rfl rfl) ?_
    refine jp_ 8 rfl mv_ (jp_ 9 rfl (ex_ 0) (jp_ 10 rfl (ex_ 1) (j1_ 11 (jio_ rfl (al_ Ty.ze137 fun b49 => ?_)) gm_)))
    refine j1_ 12 (jio_ rfl (stG 0 Ty.sz137 ?_)) (fun _ h => ⟨h.keep [false, true, true, true, true, true, true] rfl, fun _ => h.keep [false, true, true, true, true, true, true] rfl⟩)
    refine jp_ 13 rfl av_ ?_
    refine JA_done (by kernel_rfl) (gl_ rfl (fun _ h => h.keep [false, true, true, true, true, true, true] rfl)) ?_
    refine n_ (q_ (q_ (g_ (s_ mv_ (jr_ (vB true) (z_ (xk_ [0, 2, 4, 6, 7, 8, 10, 63] ?_)))))))
    refine n_ (ift (q_ (g_ (r_ (ldN 2 [vL rowsA rows.length rowsC, vS cl, vB false] Ty.ag82 Ty.sz82) (c0 (cl_ Ty.ca91) (fun w hS => f91_ok rows _ _ cl _ 4 w (rno rowsR hS) hy_) (s_ av_ (o_ (stG 1 Ty.sz79 ?_))))))))
    refine z_ (n_ (rt_ (nr_ ?_)))
    refine JX_retsD [_, _] (Value.tuple #[_, _]) Tryd.results89 (fun w h => ⟨rfl, ⟨_, rfl, load_blkN 1 [vI ((rows.getD 0 default).number), vI 4] h rfl Ty.ag79 Ty.sz79 rfl⟩, trivial⟩) rfl _ (fun _ h => h.keep [false, false, false, true, true, true, true] rfl) (fun _ _ h => (hB11.back _ _ h)) (fun wx hw => ⟨(rows.getD 0 default).number, 4, o, oA, oC, ([] : List Statement), ?_, ?_, R39.okN_nil, ?_, ?_, ?_⟩)
    ·rfl
    ·rfl
    ·first | exact (List.append_nil o).symm | assumption
    ·first | assumption | omega
    ·first
      | (rw [List.append_nil]; first | exact .err (R39.call_e3 (by assumption)) (by decide) | exact .err (R39.call_e3v (by assumption) hv9) (by decide) | exact .err (R39.call_e4 (by assumption) hf10 hxn) (by decide) | exact .err (R39.call_e4v (by assumption) hf10 hxp (R39.CallJ.bad (i1_0.1 _ leftm) (by assumption))) (by decide))
      | exact R39.call_read (by assumption) hf10 hxp (i1_1.done left0) no_such_condition (i1_0.done left0) no_such_condition
  ·refine g_ (s_ mv_ (s_ (x_subrow (lo := 3) (hi := ws.length) rfl Tryd.underlying24 Ty.sz9 (.inl rfl) (.inr ⟨rfl, rfl⟩) lt_ lt_) ?_))
   have hro50 := RO.subM wsR wsC 3 (ws.length - 3) lt_
   rw [show ws.length - 3 = (ws.drop 3).length from List.length_drop.symm, List.take_length] at hro50
   refine JO_weaken (E' := [(0, pB r 0), (1, vG [vL rowsA rows.length rowsC, vS cl, vB false]), (2, vL wsA ws.length wsC), (4, pB b1 0), (6, vI 0), (7, pB b2 0), (18, pB b1 2), (19, vB false), (22, vL wsA ws.length wsC), (23, vI ((ws.length : Nat) : Int)), (24, vB (decide (((ws.length : Nat) : Int) < 3))), (25, vB (decide (((ws.length : Nat) : Int) < 3))), (31, vB ((decide (((ws.length : Nat) : Int) < 3)) || (!(R39.symV (ws.getD 1 []))))), (32, vB ((decide (((ws.length : Nat) : Int) < 3)) || (!(R39.symV (ws.getD 1 []))))), (38, vB (((decide (((ws.length : Nat) : Int) < 3)) || (!(R39.symV (ws.getD 1 [])))) || (!(R39.symV (ws.getD 2 []))))), (42, vL wsA ws.length wsC), (43, vL (subA wsA wsC 3 1) ((ws.drop 3).length) (wsC - 3))]) (L' := [Ent.blk b2 79 [vI 0, vI 0], Ent.blk b1 82 [vL rowsA rows.length rowsC, vS cl, vB false], Ent.blk r 77 [Value.map (some mB), Value.map (some qB), vL oA o.length oC], Ent.mp vS mB (M.map kvS), Ent.mp vS qB (P.map R39.procE), Ent.row (.slice oA o.length oC) 40 4 o.length (o.flatMap Statement.enc)]) ⟨rfl, rfl, rfl, rfl, rfl, rfl, rfl, rfl, rfl, rfl, rfl, rfl, rfl, rfl, rfl, rfl, (congrArg (fun n : Nat => some (Value.slice (subA wsA wsC 3 1) n (wsC - 3))) (by exact List.length_drop.symm)), trivial⟩ (fun _ h => h) ?_
   refine c0 (cl_ Ty.ca98) (fun w hS => vals_no _ _ _ w (rno hro50 hS) (hT.on hS (fun _ h => by cases h)) hy_ hy_ hy_) (s_ mv_ (s_ (ex_ 0) (s_ (ex_ 1) (s_ av_ (s_ av_ (z_ (xk_ [0, 2, 4, 6, 7, 8, 9] ?_)))))))
   refine n_ (q_ (q_ (g_ (s_ mv_ (jr_ (vB true) (z_ (n_ (ift (q_ (g_ (r_ (ldN 1 [vL rowsA rows.length rowsC, vS cl, vB false] Ty.ag82 Ty.sz82) (c0 (cl_ Ty.ca91) (fun w hS => f91_ok rows _ _ cl _ 3 w (rno rowsR hS) hy_) (s_ av_ (o_ (stG 0 Ty.sz79 ?_)))))))))))))))
   refine z_ (n_ (rt_ (nr_ ?_)))
   refine JX_retsD [_, _] (Value.tuple #[_, _]) Tryd.results89 (fun w h => ⟨rfl, ⟨_, rfl, load_blkN 0 [vI ((rows.getD 0 default).number), vI 3] h rfl Ty.ag79 Ty.sz79 rfl⟩, trivial⟩) rfl _ (fun _ h => h.keep [false, false, true, true, true, true] rfl) (fun _ _ h => h) (fun wx hw => ⟨(rows.getD 0 default).number, 3, o, oA, oC, ([] : List Statement), ?_, ?_, R39.okN_nil, ?_, ?_, ?_⟩)
   ·rfl
   ·rfl
   ·first | exact (List.append_nil o).symm | assumption
   ·first | assumption | omega
   ·first
     | (rw [List.append_nil]; first | exact .err (R39.call_e3 (by assumption)) (by decide) | exact .err (R39.call_e3v (by assumption) hv9) (by decide) | exact .err (R39.call_e4 (by assumption) no_such_condition hxn) (by decide) | exact .err (R39.call_e4v (by assumption) no_such_condition hxp (R39.CallJ.bad (i1_0.1 _ leftm) (by assumption))) (by decide))
     | exact R39.call_read (by assumption) no_such_condition hxp (i1_1.done left0) no_such_condition (i1_0.done left0) no_such_condition
end Go.Proofs.YtbfiibgmgopnaaaDoor

namespace Go.Proofs.YtbfiibgmgopnaaaDoor
open Go.GV
namespace R39
def SetJ (num : Int) (ws : List Bytes) (M M2 : List KV) (fl fc : Int) : Prop :=
  (¬ (ws.length ≠ 3 ∨ symV (ws.getD 1 []) = false) ∧ M2 = putK M (ws.getD 1 []) (ws.getD 2 []) ∧ fl = 0 ∧ fc = 0) ∨ ((ws.length ≠ 3 ∨ symV (ws.getD 1 []) = false) ∧ M2 = M ∧ fl = num ∧ fc = 3)
section
variable {num : Int} {ws : List Bytes} {M : List KV}
theorem set_no (h : (decide (((ws.length : Nat) : Int) ≠ 3) || !symV (ws.getD 1 [])) = true) : SetJ num ws M M num 3 := by
  refine .inr ⟨?_, rfl, rfl, rfl⟩
  simp only [Bool.or_eq_true, decide_eq_true_eq, Bool.not_eq_true'] at h
  exact h.imp (fun h => by omega) id
theorem set_yes (h : (decide (((ws.length : Nat) : Int) ≠ 3) || !symV (ws.getD 1 [])) = false) : SetJ num ws M (putK M (ws.getD 1 []) (ws.getD 2 [])) 0 0 := by
  refine .inl ⟨?_, rfl, rfl, rfl⟩
  simp only [Bool.or_eq_false_iff, decide_eq_false_iff_not, Bool.not_eq_false', Decidable.not_not] at h
  rintro (h1 | h1)
  · omega
  · rw [h.2] at h1; cases h1
theorem set_len (h : (decide (((ws.length : Nat) : Int) ≠ 3) || !symV (ws.getD 1 [])) = false) : ws.length = 3 := by
  simp only [Bool.or_eq_false_iff, decide_eq_false_iff_not, Decidable.not_not] at h; omega
theorem look_set (M : List KV) (k v : Bytes) : lookK (putK M k v) = setS (lookK M) k v := by funext q; rw [look_put]; rfl
end
def PkV (P : PL) (w : World) : Prop := ∀ p ∈ P, (Ent.mp vS p.2.valsB (p.2.vals.map kvS)).at w
def RowsIn (rows : List Row) (A : Option Addr) (C : Nat) (P : PL) : Prop := ∀ p ∈ P, ∃ i, i ≤ (rows.drop 1).length ∧ p.2.rows = (rows.drop 1).take i ∧ p.2.rowsA = subA A C 1 2
theorem pkv_nil {S : List Nat} {w : World} : Kp S w (PkV []) := Kp.imp (Kp.pure trivial) fun _ _ p h => by cases h
theorem pkv_one {S : List Nat} {w : World} {k : Bytes} {x : Proc} (h : Kp S w (Ent.at (Ent.mp vS x.valsB (x.vals.map kvS)))) : Kp S w (PkV [(k, x)]) := h.imp fun w h p hp => by
  rw [List.mem_singleton] at hp; subst hp; exact h
theorem pka_more {S : List Nat} {w : World} {P N : PL} {rows : List Row} {A : Option Addr} {C : Nat} (h1 : Kp S w (PkA P)) (h2 : Kp S w (PkV N)) (h3 : RO S w A (rows.flatMap Row.enc)) (h4 : RowsIn rows A C N) (hC : rows.length ≤ C) : Kp S w (PkA (P ++ N)) := by
  have h5 : Kp S w fun w => ∀ p ∈ N, Cells w p.2.rowsA (p.2.rows.flatMap Row.enc) := by
    refine Kp.imp (C := fun w => ∀ (p : Bytes × Proc), p ∈ N → Cells w p.2.rowsA (p.2.rows.flatMap Row.enc)) (Kp.all fun p => ?_) fun _ h => h
    by_cases hp : p ∈ N
    · obtain ⟨i, hi, e1, e2⟩ := h4 p hp
      have := (RO.subF h3 Row.enc_len C 1 i (by rw [List.length_drop] at hi; omega)).kp
      rw [← e1, ← e2] at this
      exact this.imp fun _ h _ => h
    · exact (Kp.pure (S := S) (w := w) trivial).imp fun _ _ h => absurd h hp
  exact ((h1.and h2).and h5).imp fun w h p hp => by
    rcases List.mem_append.1 hp with hp | hp
    · exact h.1.1 p hp
    · exact ⟨h.1.2 p hp, h.2 p hp⟩
theorem pga_nil : PgA [] := fun _ h => by cases h
theorem rowsIn_nil {rows : List Row} {A : Option Addr} {C : Nat} : RowsIn rows A C [] := fun _ h => by cases h
theorem pga_app {P N : PL} (h : PgA P) (k : PgA N) : PgA (P ++ N) := fun p hp => (List.mem_append.1 hp).elim (h p) (k p)
def EndJ (rest : List Row) (k : Nat) : Prop := findEnd rest = (findEnd (rest.drop k)).map (k + ·)
section
variable {rest : List Row} {k : Nat}
theorem EndJ.start : EndJ rest 0 := by
  unfold EndJ; rw [List.drop_zero]
  cases findEnd rest with
  | none => rfl
  | some i => exact congrArg some (Nat.zero_add i).symm
theorem isEnd_B {t : Bytes} {b : Bool} (hb : ((decide (scanE t = 0) && decide ((((scanW t).length : Nat) : Int) = 1)) && decide ((scanW t).getD 0 [] = wEND)) = b) : isEnd t = b := by
  subst hb
  unfold isEnd
  rw [Bool.eq_iff_iff]
  simp only [Bool.and_eq_true, decide_eq_true_eq]
  constructor
  · intro h
    have e1 : scanW t = [wEND] := by unfold scanW; rw [h]; rfl
    have e2 : scanE t = 0 := by unfold scanE; rw [h]
    rw [e1, e2]; exact ⟨⟨rfl, rfl⟩, rfl⟩
  · rintro ⟨⟨h1, h2⟩, h3⟩
    have h4 := scan_good (t := t) (by rw [h1]; decide)
    rw [h4]
    cases hw : scanW t with
    | nil => rw [hw] at h2; cases h2
    | cons a r =>
      rw [hw] at h2 h3
      have hr : r = [] := List.length_eq_zero_iff.1 (by rw [List.length_cons] at h2; omega)
      subst hr
      rw [show a = wEND from h3]
theorem EndJ.step (h : EndJ rest k) (hk : k < rest.length) (hb : isEnd (rest.getD k default).text = false) : EndJ rest (k + 1) := by
  unfold EndJ at *
  rw [h, dropL hk default, findEnd, if_neg (by rw [hb]; decide)]
  cases findEnd (rest.drop (k + 1)) with
  | none => rfl
  | some i => exact congrArg some (by show k + (i + 1) = k + 1 + i; omega)
theorem EndJ.hit (h : EndJ rest k) (hk : k < rest.length) (hb : isEnd (rest.getD k default).text = true) : findEnd rest = some k := by
  unfold EndJ at h
  rw [h, dropL hk default, findEnd, if_pos hb]; rfl
theorem EndJ.none_ (h : EndJ rest k) (hk : ¬ k < rest.length) : findEnd rest = none := by
  unfold EndJ at h
  rw [h, List.drop_eq_nil_of_le (by omega)]; rfl
end
section
variable {num : Int} {ws : List Bytes} {m : Syms} {P : PL} {o : List Statement} {V : List KV} {rest : List Row}
theorem proc_w (h : (decide (((ws.length : Nat) : Int) < 2) || !symV (ws.getD 1 [])) = true) : ws.length < 2 ∨ symV (ws.getD 1 []) = false := by
  simp only [Bool.or_eq_true, decide_eq_true_eq, Bool.not_eq_true'] at h
  exact h.imp (fun h => by omega) id
theorem proc_wN (h : (decide (((ws.length : Nat) : Int) < 2) || !symV (ws.getD 1 [])) = false) : ¬ (ws.length < 2 ∨ symV (ws.getD 1 []) = false) := by
  simp only [Bool.or_eq_false_iff, decide_eq_false_iff_not, Bool.not_eq_false'] at h
  rintro (h1 | h1)
  · omega
  · rw [h.2] at h1; cases h1
theorem proc_e3 (h : (decide (((ws.length : Nat) : Int) < 2) || !symV (ws.getD 1 [])) = true) : procV num ws rest (rsOf m P o) = .error (num, 3) := by unfold procV; rw [if_pos (proc_w h)]
theorem proc_e3v (h : (decide (((ws.length : Nat) : Int) < 2) || !symV (ws.getD 1 [])) = false) (hv : (valsV (ws.drop 2)).isSome = false) : procV num ws rest (rsOf m P o) = .error (num, 3) := by
  unfold procV; rw [if_neg (proc_wN h)]
  cases e : valsV (ws.drop 2) with
  | none => rfl
  | some v => rw [e] at hv; cases hv
theorem proc_x (h : (decide (((ws.length : Nat) : Int) < 2) || !symV (ws.getD 1 [])) = false) (hv : valsV (ws.drop 2) = some V) : procV num ws rest (rsOf m P o) = if ((lookK P (ws.getD 1 [])).map fun x : Proc => (⟨x.vals, x.rows⟩ : Pr)).isSome = true then .error (num, 5)
      else match findEnd rest with
        | none => .error (num, 3)
        | some i => .ok (i + 1, ⟨m, P.map purP ++ [(ws.getD 1 [], ⟨V, rest.take i⟩)], o.map pur⟩) := by
  unfold procV; rw [if_neg (proc_wN h), hv]
  show (if (findP (P.map purP) (ws.getD 1 [])).isSome = true then _ else _) = _
  rw [find_pur]; rfl
theorem proc_e5 (h : (decide (((ws.length : Nat) : Int) < 2) || !symV (ws.getD 1 [])) = false) (hv : valsV (ws.drop 2) = some V) {x : Proc} (hp : lookK P (ws.getD 1 []) = some x) : procV num ws rest (rsOf m P o) = .error (num, 5) := by
  rw [proc_x h hv, hp]; rfl
theorem proc_e3n (h : (decide (((ws.length : Nat) : Int) < 2) || !symV (ws.getD 1 [])) = false) (hv : valsV (ws.drop 2) = some V) (hp : lookK P (ws.getD 1 []) = none) (hn : findEnd rest = none) : procV num ws rest (rsOf m P o) = .error (num, 3) := by
  rw [proc_x h hv, hp, hn]; rfl
theorem proc_ok (h : (decide (((ws.length : Nat) : Int) < 2) || !symV (ws.getD 1 [])) = false) (hv : valsV (ws.drop 2) = some V) (hp : lookK P (ws.getD 1 []) = none) {i : Nat} (hn : findEnd rest = some i) {x : Proc} (hx : x.vals = V) (hr : x.rows = rest.take i) : procV num ws rest (rsOf m P o) = .ok (i + 1, rsOf m (P ++ [(ws.getD 1 [], x)]) o) := by
  rw [proc_x h hv, hp, hn]
  show Except.ok (i + 1, (⟨m, P.map purP ++ [(ws.getD 1 [], ⟨V, rest.take i⟩)], o.map pur⟩ : RS)) = Except.ok (i + 1, ⟨m, (P ++ [(ws.getD 1 [], x)]).map purP, o.map pur⟩)
  rw [List.map_append, ← hx, ← hr]; rfl
end
theorem pga_one {k : Bytes} {x : Proc} {rows : List Row} {i : Nat} (h1 : ShortV x.vals) (h2 : KeysNd x.vals) (h3 : x.rows = (rows.drop 1).take i) (h4 : i ≤ x.rowsC) (h5 : rows.length ≤ 100000) (h6 : ∀ j, (rows.getD j default).text.length ≤ 20000) : PgA [(k, x)] := fun p hp => by
  rw [List.mem_singleton] at hp; subst hp
  refine ⟨h1, h2, ?_, ?_, fun j => ?_⟩
  · show x.rows.length ≤ x.rowsC; rw [h3, List.length_take]; omega
  · show x.rows.length ≤ 100000; rw [h3, List.length_take, List.length_drop]; omega
  · show (x.rows.getD j default).text.length ≤ 20000
    rw [h3]
    rcases Nat.lt_or_ge j i with hj | hj
    · have := txt_drop h6 1 j
      rw [List.getD_eq_getElem?_getD, ← List.getElem?_take_of_lt hj, ← List.getD_eq_getElem?_getD] at this
      exact this
    · rw [List.getD_eq_getElem?_getD, List.getElem?_eq_none (by rw [List.length_take]; omega)]; exact Nat.zero_le _
theorem rowsIn_one {k : Bytes} {x : Proc} {rows : List Row} {A : Option Addr} {C i : Nat} (h1 : i ≤ (rows.drop 1).length) (h2 : x.rows = (rows.drop 1).take i) (h3 : x.rowsA = subA A C 1 2) : RowsIn rows A C [(k, x)] := fun p hp => by
  rw [List.mem_singleton] at hp; subst hp; exact ⟨i, h1, h2, h3⟩
end R39
end Go.Proofs.YtbfiibgmgopnaaaDoor
