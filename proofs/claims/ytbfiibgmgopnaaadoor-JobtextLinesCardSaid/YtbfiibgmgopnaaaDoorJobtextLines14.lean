/- Pl39o, C39i, Pl39p in one text. -/
import Derived.Test.YtbfiibgmgopnaaaDoorJobtextLines13
set_option linter.unusedVariables false
set_option linter.unusedSimpArgs false
namespace Go.Proofs.YtbfiibgmgopnaaaDoor
open Go.GV
namespace R39
def SetJ (num : Int) (ws : List Bytes) (M M2 : List KV) (fl fc : Int) : Prop :=
  (¬ (ws.length ≠ 3 ∨ symV (ws.getD 1 []) = false) ∧ M2 = putK M (ws.getD 1 []) (ws.getD 2 []) ∧ fl = 0 ∧ fc = 0) ∨ ((ws.length ≠ 3 ∨ symV (ws.getD 1 []) = false) ∧ M2 = M ∧ fl = num ∧ fc = 3)
section
variable {num : Int} {ws : List Bytes} {M : List KV}
theorem set_no (h : (decide (((ws.length : Nat) : Int) ≠ 3) || !symV (ws.getD 1 [])) = true) : SetJ num ws M M num 3 := by
  refine .inr ⟨?_, rfl, rfl, rfl⟩
  simp only [Bool.or_eq_true, decide_eq_true_eq, Bool.not_eq_true'] at h
  exact h.imp (fun h => by omega) id
theorem set_yes (h : (decide (((ws.length : Nat) : Int) ≠ 3) || !symV (ws.getD 1 [])) = false) : SetJ num ws M (putK M (ws.getD 1 []) (ws.getD 2 [])) 0 0 := by
  refine .inl ⟨?_, rfl, rfl, rfl⟩
  simp only [Bool.or_eq_false_iff, decide_eq_false_iff_not, Bool.not_eq_false', Decidable.not_not] at h
  rintro (h1 | h1)
  · omega
  · rw [h.2] at h1; cases h1
theorem set_len (h : (decide (((ws.length : Nat) : Int) ≠ 3) || !symV (ws.getD 1 [])) = false) : ws.length = 3 := by
  simp only [Bool.or_eq_false_iff, decide_eq_false_iff_not, Decidable.not_not] at h; omega
theorem look_set (M : List KV) (k v : Bytes) : lookK (putK M k v) = setS (lookK M) k v := by funext q; rw [look_put]; rfl
end
def PkV (P : PL) (w : World) : Prop := ∀ p ∈ P, (Ent.mp vS p.2.valsB (p.2.vals.map kvS)).at w
def RowsIn (rows : List Row) (A : Option Addr) (C : Nat) (P : PL) : Prop := ∀ p ∈ P, ∃ i, i ≤ (rows.drop 1).length ∧ p.2.rows = (rows.drop 1).take i ∧ p.2.rowsA = subA A C 1 2
theorem pkv_nil {S : List Nat} {w : World} : Kp S w (PkV []) := Kp.imp (Kp.pure trivial) fun _ _ p h => by cases h
theorem pkv_one {S : List Nat} {w : World} {k : Bytes} {x : Proc} (h : Kp S w (Ent.at (Ent.mp vS x.valsB (x.vals.map kvS)))) : Kp S w (PkV [(k, x)]) := h.imp fun w h p hp => by
  rw [List.mem_singleton] at hp; subst hp; exact h
theorem pka_more {S : List Nat} {w : World} {P N : PL} {rows : List Row} {A : Option Addr} {C : Nat} (h1 : Kp S w (PkA P)) (h2 : Kp S w (PkV N)) (h3 : RO S w A (rows.flatMap Row.enc)) (h4 : RowsIn rows A C N) (hC : rows.length ≤ C) : Kp S w (PkA (P ++ N)) := by
  have h5 : Kp S w fun w => ∀ p ∈ N, Cells w p.2.rowsA (p.2.rows.flatMap Row.enc) := by
    refine Kp.imp (C := fun w => ∀ (p : Bytes × Proc), p ∈ N → Cells w p.2.rowsA (p.2.rows.flatMap Row.enc)) (Kp.all fun p => ?_) fun _ h => h
    by_cases hp : p ∈ N
    · obtain ⟨i, hi, e1, e2⟩ := h4 p hp
      have := (RO.subF h3 Row.enc_len C 1 i (by rw [List.length_drop] at hi; omega)).kp
      rw [← e1, ← e2] at this
      exact this.imp fun _ h _ => h
    · exact (Kp.pure (S := S) (w := w) trivial).imp fun _ _ h => absurd h hp
  exact ((h1.and h2).and h5).imp fun w h p hp => by
    rcases List.mem_append.1 hp with hp | hp
    · exact h.1.1 p hp
    · exact ⟨h.1.2 p hp, h.2 p hp⟩
theorem pga_nil : PgA [] := fun _ h => by cases h
theorem rowsIn_nil {rows : List Row} {A : Option Addr} {C : Nat} : RowsIn rows A C [] := fun _ h => by cases h
theorem pga_app {P N : PL} (h : PgA P) (k : PgA N) : PgA (P ++ N) := fun p hp => (List.mem_append.1 hp).elim (h p) (k p)
def EndJ (rest : List Row) (k : Nat) : Prop := findEnd rest = (findEnd (rest.drop k)).map (k + ·)
section
variable {rest : List Row} {k : Nat}
theorem EndJ.start : EndJ rest 0 := by
  unfold EndJ; rw [List.drop_zero]
  cases findEnd rest with
  | none => rfl
  | some i => exact congrArg some (Nat.zero_add i).symm
theorem isEnd_B {t : Bytes} {b : Bool} (hb : ((decide (scanE t = 0) && decide ((((scanW t).length : Nat) : Int) = 1)) && decide ((scanW t).getD 0 [] = wEND)) = b) : isEnd t = b := by
  subst hb
  unfold isEnd
  rw [Bool.eq_iff_iff]
  simp only [Bool.and_eq_true, decide_eq_true_eq]
  constructor
  · intro h
    have e1 : scanW t = [wEND] := by unfold scanW; rw [h]; rfl
    have e2 : scanE t = 0 := by unfold scanE; rw [h]
    rw [e1, e2]; exact ⟨⟨rfl, rfl⟩, rfl⟩
  · rintro ⟨⟨h1, h2⟩, h3⟩
    have h4 := scan_good (t := t) (by rw [h1]; decide)
    rw [h4]
    cases hw : scanW t with
    | nil => rw [hw] at h2; cases h2
    | cons a r =>
      rw [hw] at h2 h3
      have hr : r = [] := List.length_eq_zero_iff.1 (by rw [List.length_cons] at h2; omega)
      subst hr
      rw [show a = wEND from h3]
theorem EndJ.step (h : EndJ rest k) (hk : k < rest.length) (hb : isEnd (rest.getD k default).text = false) : EndJ rest (k + 1) := by
  unfold EndJ at *
  rw [h, dropL hk default, findEnd, if_neg (by rw [hb]; decide)]
  cases findEnd (rest.drop (k + 1)) with
  | none => rfl
  | some i => exact congrArg some (by show k + (i + 1) = k + 1 + i; omega)
theorem EndJ.hit (h : EndJ rest k) (hk : k < rest.length) (hb : isEnd (rest.getD k default).text = true) : findEnd rest = some k := by
  unfold EndJ at h
  rw [h, dropL hk default, findEnd, if_pos hb]; rfl
theorem EndJ.none_ (h : EndJ rest k) (hk : ¬ k < rest.length) : findEnd rest = none := by
  unfold EndJ at h
  rw [h, List.drop_eq_nil_of_le (by omega)]; rfl
end
section
variable {num : Int} {ws : List Bytes} {m : Syms} {P : PL} {o : List Statement} {V : List KV} {rest : List Row}
theorem proc_w (h : (decide (((ws.length : Nat) : Int) < 2) || !symV (ws.getD 1 [])) = true) : ws.length < 2 ∨ symV (ws.getD 1 []) = false := by
  simp only [Bool.or_eq_true, decide_eq_true_eq, Bool.not_eq_true'] at h
  exact h.imp (fun h => by omega) id
theorem proc_wN (h : (decide (((ws.length : Nat) : Int) < 2) || !symV (ws.getD 1 [])) = false) : ¬ (ws.length < 2 ∨ symV (ws.getD 1 []) = false) := by
  simp only [Bool.or_eq_false_iff, decide_eq_false_iff_not, Bool.not_eq_false'] at h
  rintro (h1 | h1)
  · omega
  · rw [h.2] at h1; cases h1
theorem proc_e3 (h : (decide (((ws.length : Nat) : Int) < 2) || !symV (ws.getD 1 [])) = true) : procV num ws rest (rsOf m P o) = .error (num, 3) := by unfold procV; rw [if_pos (proc_w h)]
theorem proc_e3v (h : (decide (((ws.length : Nat) : Int) < 2) || !symV (ws.getD 1 [])) = false) (hv : (valsV (ws.drop 2)).isSome = false) : procV num ws rest (rsOf m P o) = .error (num, 3) := by
  unfold procV; rw [if_neg (proc_wN h)]
  cases e : valsV (ws.drop 2) with
  | none => rfl
  | some v => rw [e] at hv; cases hv
theorem proc_x (h : (decide (((ws.length : Nat) : Int) < 2) || !symV (ws.getD 1 [])) = false) (hv : valsV (ws.drop 2) = some V) : procV num ws rest (rsOf m P o) = if ((lookK P (ws.getD 1 [])).map fun x : Proc => (⟨x.vals, x.rows⟩ : Pr)).isSome = true then .error (num, 5)
      else match findEnd rest with
        | none => .error (num, 3)
        | some i => .ok (i + 1, ⟨m, P.map purP ++ [(ws.getD 1 [], ⟨V, rest.take i⟩)], o.map pur⟩) := by
  unfold procV; rw [if_neg (proc_wN h), hv]
  show (if (findP (P.map purP) (ws.getD 1 [])).isSome = true then _ else _) = _
  rw [find_pur]; rfl
theorem proc_e5 (h : (decide (((ws.length : Nat) : Int) < 2) || !symV (ws.getD 1 [])) = false) (hv : valsV (ws.drop 2) = some V) {x : Proc} (hp : lookK P (ws.getD 1 []) = some x) : procV num ws rest (rsOf m P o) = .error (num, 5) := by
  rw [proc_x h hv, hp]; rfl
theorem proc_e3n (h : (decide (((ws.length : Nat) : Int) < 2) || !symV (ws.getD 1 [])) = false) (hv : valsV (ws.drop 2) = some V) (hp : lookK P (ws.getD 1 []) = none) (hn : findEnd rest = none) : procV num ws rest (rsOf m P o) = .error (num, 3) := by
  rw [proc_x h hv, hp, hn]; rfl
theorem proc_ok (h : (decide (((ws.length : Nat) : Int) < 2) || !symV (ws.getD 1 [])) = false) (hv : valsV (ws.drop 2) = some V) (hp : lookK P (ws.getD 1 []) = none) {i : Nat} (hn : findEnd rest = some i) {x : Proc} (hx : x.vals = V) (hr : x.rows = rest.take i) : procV num ws rest (rsOf m P o) = .ok (i + 1, rsOf m (P ++ [(ws.getD 1 [], x)]) o) := by
  rw [proc_x h hv, hp, hn]
  show Except.ok (i + 1, (⟨m, P.map purP ++ [(ws.getD 1 [], ⟨V, rest.take i⟩)], o.map pur⟩ : RS)) = Except.ok (i + 1, ⟨m, (P ++ [(ws.getD 1 [], x)]).map purP, o.map pur⟩)
  rw [List.map_append, ← hx, ← hr]; rfl
end
theorem pga_one {k : Bytes} {x : Proc} {rows : List Row} {i : Nat} (h1 : ShortV x.vals) (h2 : KeysNd x.vals) (h3 : x.rows = (rows.drop 1).take i) (h4 : i ≤ x.rowsC) (h5 : rows.length ≤ 100000) (h6 : ∀ j, (rows.getD j default).text.length ≤ 20000) : PgA [(k, x)] := fun p hp => by
  rw [List.mem_singleton] at hp; subst hp
  refine ⟨h1, h2, ?_, ?_, fun j => ?_⟩
  · show x.rows.length ≤ x.rowsC; rw [h3, List.length_take]; omega
  · show x.rows.length ≤ 100000; rw [h3, List.length_take, List.length_drop]; omega
  · show (x.rows.getD j default).text.length ≤ 20000
    rw [h3]
    rcases Nat.lt_or_ge j i with hj | hj
    · have := txt_drop h6 1 j
      rw [List.getD_eq_getElem?_getD, ← List.getElem?_take_of_lt hj, ← List.getD_eq_getElem?_getD] at this
      exact this
    · rw [List.getD_eq_getElem?_getD, List.getElem?_eq_none (by rw [List.length_take]; omega)]; exact Nat.zero_le _
theorem rowsIn_one {k : Bytes} {x : Proc} {rows : List Row} {A : Option Addr} {C i : Nat} (h1 : i ≤ (rows.drop 1).length) (h2 : x.rows = (rows.drop 1).take i) (h3 : x.rowsA = subA A C 1 2) : RowsIn rows A C [(k, x)] := fun p hp => by
  rw [List.mem_singleton] at hp; subst hp; exact ⟨i, h1, h2, h3⟩
end R39
end Go.Proofs.YtbfiibgmgopnaaaDoor

namespace Go.Proofs.YtbfiibgmgopnaaaDoor
open Go.GV
set_option linter.unusedVariables false
set_option linter.unusedSimpArgs false
theorem c39i0_ {p : Prop} (h : p := by first | rfl | exact congrArg (List.map R39.procE) (put_new _ _ _ hxn) | exact congrArg (List.map R39.procE) (List.append_nil P).symm) : p := h
theorem c39i1_ {p : Prop} (h : p := by first | exact R39.rowsIn_nil | exact R39.rowsIn_one (i := k) (by omega) rfl rfl) : p := h
theorem c39i2_ {p : Prop} (h : p := by first | exact R39.pga_nil | exact R39.pga_one (i := k) (R39.valsG_short _ _ _ hf7 R39.shortV_nil (R39.mem_short q5 2)) (R39.valsG_nd _ _ _ hf7 R39.keys_nil) rfl (by show k ≤ rowsC - 1; omega) q2 q6) : p := h
theorem c39i3_ {p : Prop} (h : p := by first | exact R39.pga_nil | exact R39.pga_one (i := k) (R39.valsG_short _ _ _ no_such_condition R39.shortV_nil (R39.mem_short q5 2)) (R39.valsG_nd _ _ _ no_such_condition R39.keys_nil) rfl (by show k ≤ rowsC - 1; omega) q2 q6) : p := h
set_option maxRecDepth 20000 in
theorem set_out (r : Nat) (mB : Nat) (M : List (Bytes × Bytes)) (pr : Value) (qo : Value) (rows : List Row) (rowsA : Option Addr) (rowsC : Nat) (cl : Bytes) (ws : List Bytes) (wsA : Option Addr) (wsC : Nat) (w : World) (rowsR : RO [r, mB] w rowsA (rows.flatMap Row.enc)) (wsR : RO [r, mB] w wsA (ws.map vS)) (hT : Tab [r, mB] w) (q0 : 0 < rows.length) (q1 : 0 < ws.length) (q2 : ws.length ≤ 1000000 ∧ ws.length ≤ wsC) (q3 : ∀ i, (ws.getD i []).length ≤ 20000) (q4 : R39.ShortV M) (hg : Give [r, mB] w [Ent.blk r 77 [Value.map (some mB), pr, qo], Ent.mp vS mB (M.map kvS)]) : Calls Tryd.prog 86 #[pB r 0, vG [vL rowsA rows.length rowsC, vS cl, vB false], vL wsA ws.length wsC] w (Gives [r, mB] w fun v L => ∃ fl : Int, ∃ fc : Int, ∃ M2 : List (Bytes × Bytes), v = Value.tuple #[vI 0, vG [vI fl, vI fc]] ∧ L = [Ent.blk r 77 [Value.map (some mB), pr, qo], Ent.mp vS mB (M2.map kvS)] ∧ (R39.SetJ (rows.getD 0 default).number ws M M2 fl fc) ∧ (R39.ShortV M2)) := by
 have hw1 := q3 1
 refine calls_J [r, mB] 37 Tryd.func86 rfl Tryd.ntmps86 [(0, _), (1, _), (2, _)] rfl rfl hg ?_
 refine q_ (g_ (o_ (bxG fun b1 => ?_)))
 refine s_ av_ (o_ (al_ Ty.ze79 fun b2 => ?_))
 refine z_ (n_ (q_ (k_ (q_ (g_ (s_ (fA 2 Ty.fi82_2) (r_ (ld_ 1 Ty.sc4) (s_ av_ (z_ (n_ (iff_ (q_ (g_ (s_ mv_ (s_ (lnS Tryd.underlying24) (s_ (x_neq_i rfl rfl) (s_ mv_ ?_)))))))))))))))))
 refine or_ 5 (!(R39.symV (ws.getD 1 []))) (fun g3 => ?_) ?_
 ·have g3r := g3
  have g3r := of_decide_eq_false g3r
  refine sg_ g3 mv_ (rg_ g3 (ixM (k := 1) (cells_ro wsR) Tryd.underlying24 Ty.sz9) (rg_ g3 (ldM vS [] (cells_ro wsR) Ty.sc9) (c0g g3 (cl_ Ty.ca30) (fun w hS => f30_ok _ w (hT.on hS (fun _ h => by cases h)) hy_) (sg_ g3 (x_not rfl) ?_))))
  exact cr_
 refine s_ av_ (z_ (n_ ?_))
 refine if_ (fun h4 => ?_) (fun h4 => ?_)
 ·have h4w := h4
  simp only [Bool.and_eq_true, Bool.or_eq_true, Bool.and_eq_false_iff, Bool.or_eq_false_iff, Bool.not_eq_true', Bool.not_eq_false', decide_eq_true_eq, decide_eq_false_iff_not] at h4
  refine q_ (g_ (r_ (ldN 1 [vL rowsA rows.length rowsC, vS cl, vB false] Ty.ag82 Ty.sz82) (c0 (cl_ Ty.ca91) (fun w hS => f91_ok rows _ _ cl _ 3 w (rno rowsR hS) hy_) (s_ av_ (o_ (stG 0 Ty.sz79 ?_))))))
  refine z_ (n_ (rt_ (kq_ (nr_ ?_))))
  refine JX_rets [_, _] (Value.tuple #[_, _]) Tryd.results86 (fun w h => ⟨rfl, ⟨_, rfl, load_blkN 0 [vI ((rows.getD 0 default).number), vI 3] h rfl Ty.ag79 Ty.sz79 rfl⟩, trivial⟩) rfl _ (fun _ h => h.keep [false, false, true, true] rfl) ⟨(rows.getD 0 default).number, 3, M, ?_, ?_, ?_, ?_⟩
  ·rfl
  ·rfl
  ·first | exact R39.set_no (by assumption) | exact R39.set_yes (by assumption)
  ·first | assumption | exact R39.shortV_put q4 (q3 2)
 ·have h4w := h4
  have ⟨h4, h5⟩ := bor_false h4
  have h4 := of_decide_eq_false h4
  have h5 : (R39.symV (ws.getD 1 [])) = true := bnot_false h5
  have hs3 := R39.set_len (by assumption)
  refine sk_ (kx_ (n_ (q_ ?_)))
  refine drU [] [10] 11 Ty.mixed ?_
  refine jp_ 0 rfl mv_ (jp_ 1 rfl (x_nilCheck rfl) (jp_ 2 rfl (fA 0 Ty.fi77_0) ?_))
  refine JA_early 3 (Value.map (some mB)) rfl (by kernel_rfl) (by kernel_rfl) (by kernel_rfl) rfl (by kernel_rfl) (fun _ _ _ h => h) rfl trivial (x_load 2 rfl rfl Ty.sc22 rfl) ?_
  refine jp_ 4 rfl mv_ (jq_ 5 rfl (ixM (k := 1) (cells_ro wsR) Tryd.underlying24 Ty.sz9) (jq_ 6 rfl (ldM vS [] (cells_ro wsR) Ty.sc9) (jp_ 7 rfl mv_ (jq_ 8 rfl (ixM (k := 2) (cells_ro wsR) Tryd.underlying24 Ty.sz9) (jq_ 9 rfl (ldM vS [] (cells_ro wsR) Ty.sc9) (j1_ 10 (jio_ rfl (O_mapUpdate 3 (f := vS) (k := (ws.getD 1 [])) ((putK M (ws.getD 1 []) (ws.getD 2 [])).map kvS) [Ent.blk b2 79 [vI 0, vI 0], Ent.blk b1 82 [vL rowsA rows.length rowsC, vS cl, vB false], Ent.blk r 77 [Value.map (some mB), pr, qo], Ent.mp vS mB ((putK M (ws.getD 1 []) (ws.getD 2 [])).map kvS)] rfl rfl rfl rfl Tryd.underlying22 (mapK_s Tryd.underlying9) (upd_kv M (ws.getD 1 []) (ws.getD 2 [])) rfl ?_)) (fun _ h => ⟨h.keep [false, false, false, false] rfl, fun _ => h⟩)))))))
  refine JA_done (by kernel_rfl) (gl_ rfl (fun _ h => h.keep [false, false, false, false] rfl)) ?_
  refine n_ (q_ (g_ (js_ (vG [vI 0, vI 0]) (x_build (by kernel_rfl)) (s_ av_ (o_ (stG 0 Ty.sz79 ?_))))))
  refine z_ (xk_ [6, 7] ?_)
  refine n_ (rt_ ?_)
  refine JX_rets [_, _] (Value.tuple #[_, _]) Tryd.results86 (fun w h => ⟨rfl, ⟨_, rfl, load_blkN 0 [vI 0, vI 0] h rfl Ty.ag79 Ty.sz79 rfl⟩, trivial⟩) rfl _ (fun _ h => h.keep [false, false, true, true] rfl) ⟨0, 0, (putK M (ws.getD 1 []) (ws.getD 2 [])), ?_, ?_, ?_, ?_⟩
  ·rfl
  ·rfl
  ·first | exact R39.set_no (by assumption) | exact R39.set_yes (by assumption)
  ·first | assumption | exact R39.shortV_put q4 (q3 2)
set_option maxHeartbeats 4000000 in
set_option maxRecDepth 20000 in
theorem proc_out (r : Nat) (sy : Value) (qB : Nat) (P : R39.PL) (qo : Value) (rows : List Row) (rowsA : Option Addr) (rowsC : Nat) (cl : Bytes) (ws : List Bytes) (wsA : Option Addr) (wsC : Nat) (w : World) (rowsR : RO [r, qB] w rowsA (rows.flatMap Row.enc)) (wsR : RO [r, qB] w wsA (ws.map vS)) (hT : Tab [r, qB] w) (q0 : 0 < rows.length) (q1 : rows.length ≤ rowsC) (q2 : rows.length ≤ 100000) (q3 : 0 < ws.length) (q4 : ws.length ≤ 1000000 ∧ ws.length ≤ wsC) (q5 : ∀ i, (ws.getD i []).length ≤ 20000) (q6 : ∀ i, (rows.getD i default).text.length ≤ 20000) (hg : Give [r, qB] w [Ent.blk r 77 [sy, Value.map (some qB), qo], Ent.mp vS qB (P.map R39.procE)]) : Calls Tryd.prog 87 #[pB r 0, vG [vL rowsA rows.length rowsC, vS cl, vB false], vL wsA ws.length wsC] w (GivesW [r, qB] w fun v L wx => ∃ n : Int, ∃ fl : Int, ∃ fc : Int, ∃ NP : R39.PL, v = Value.tuple #[vI n, vG [vI fl, vI fc]] ∧ L = [Ent.blk r 77 [sy, Value.map (some qB), qo], Ent.mp vS qB ((P ++ NP).map R39.procE)] ∧ Kp (Lown L ++ List.range w.heap.size) wx (R39.PkV NP) ∧ (R39.PgA NP) ∧ (R39.RowsIn rows rowsA rowsC NP) ∧ (∀ m o, R39.LnJ (R39.procV (rows.getD 0 default).number ws (rows.drop 1) (R39.rsOf m P o)) n fl fc (R39.rsOf m (P ++ NP) o))) := by
 have hw1 := q5 1
 have hdl := List.length_drop (i := 1) (l := rows)
 refine calls_JW [r, qB] 104 Tryd.func87 rfl Tryd.ntmps87 [(0, _), (1, _), (2, _)] rfl rfl hg ?_
 refine q_ (g_ (o_ (bxG fun b1 => ?_)))
 refine s_ av_ (o_ (al_ Ty.ze79 fun b2 => ?_))
 refine z_ (n_ (q_ (q_ (g_ (s_ (fA 2 Ty.fi82_2) (r_ (ld_ 1 Ty.sc4) (z_ (n_ (iff_ (sk_ (n_ (q_ (q_ (g_ (s_ mv_ (s_ (lnS Tryd.underlying24) (s_ (x_lss_i rfl rfl) (s_ mv_ ?_))))))))))))))))))
 refine or_ 5 (!(R39.symV (ws.getD 1 []))) (fun g3 => ?_) ?_
 ·have g3r := g3
  have g3r := of_decide_eq_false g3r
  refine sg_ g3 mv_ (rg_ g3 (ixM (k := 1) (cells_ro wsR) Tryd.underlying24 Ty.sz9) (rg_ g3 (ldM vS [] (cells_ro wsR) Ty.sc9) (c0g g3 (cl_ Ty.ca30) (fun w hS => f30_ok _ w (hT.on hS (fun _ h => by cases h)) hy_) (sg_ g3 (x_not rfl) ?_))))
  exact cr_
 refine z_ (n_ ?_)
 refine if_ (fun h4 => ?_) (fun h4 => ?_)
 ·have h4w := h4
  simp only [Bool.and_eq_true, Bool.or_eq_true, Bool.and_eq_false_iff, Bool.or_eq_false_iff, Bool.not_eq_true', Bool.not_eq_false', decide_eq_true_eq, decide_eq_false_iff_not] at h4
  refine q_ (g_ (r_ (ldN 1 [vL rowsA rows.length rowsC, vS cl, vB false] Ty.ag82 Ty.sz82) (c0 (cl_ Ty.ca91) (fun w hS => f91_ok rows _ _ cl _ 3 w (rno rowsR hS) hy_) (s_ av_ (o_ (stG 0 Ty.sz79 ?_))))))
  refine z_ (n_ (rt_ (nr_ ?_)))
  refine JX_retsD [_, _] (Value.tuple #[_, _]) Tryd.results87 (fun w h => ⟨rfl, ⟨_, rfl, load_blkN 0 [vI ((rows.getD 0 default).number), vI 3] h rfl Ty.ag79 Ty.sz79 rfl⟩, trivial⟩) rfl _ (fun _ h => h.keep [false, false, true, true] rfl) (fun _ _ h => h) (fun wx hw => ⟨0, (rows.getD 0 default).number, 3, ([] : R39.PL), ?_, ?_, R39.pkv_nil, ?_, ?_, ?_⟩)
  ·rfl
  ·have e_y0 : ((P.map R39.procE) : List (Bytes × Value)) = ((P ++ ([] : R39.PL)).map R39.procE) := by
    exact c39i0_
   have e_all := (congrArg (fun (y0 : List (Bytes × Value)) => [Ent.blk r 77 [sy, Value.map (some qB), qo], Ent.mp vS qB y0]) e_y0)
   exact e_all
  ·exact c39i3_
  ·exact c39i1_
  ·intro m o
   first
    | (rw [List.append_nil]; first | exact .err (R39.proc_e3 (by assumption)) (by decide) | exact .err (R39.proc_e3v (by assumption) hv9) (by decide) | exact .err (R39.proc_e5 (by assumption) no_such_condition hxp) (by decide) | exact .err (R39.proc_e3n (by assumption) no_such_condition hxn (i1_0.none_ (by omega))) (by decide))
    | exact .inl ⟨k + 1, R39.proc_ok (by assumption) no_such_condition hxn (i1_0.hit (by omega) (R39.isEnd_B (by assumption))) rfl rfl, rfl, rfl, rfl⟩
 ·have h4w := h4
  have ⟨h4, h5⟩ := bor_false h4
  have h4 := of_decide_eq_false h4
  have h5 : (R39.symV (ws.getD 1 [])) = true := bnot_false h5
  refine sk_ (n_ (q_ ?_))
  rcases Bool.eq_false_or_eq_true (R39.valsV (ws.drop 2)).isSome with hv9 | hv9
  ·refine g_ (s_ mv_ (s_ (x_subrow (lo := 2) (hi := ws.length) rfl Tryd.underlying24 Ty.sz9 (.inl rfl) (.inr ⟨rfl, rfl⟩) lt_ lt_) ?_))
   have hro6 := RO.subM wsR wsC 2 (ws.length - 2) lt_
   rw [show ws.length - 2 = (ws.drop 2).length from List.length_drop.symm, List.take_length] at hro6
   refine JO_weaken (E' := [(0, pB r 0), (1, vG [vL rowsA rows.length rowsC, vS cl, vB false]), (2, vL wsA ws.length wsC), (4, pB b1 0), (6, vI 0), (7, pB b2 0), (16, pB b1 2), (17, vB false), (20, vL wsA ws.length wsC), (21, vI ((ws.length : Nat) : Int)), (22, vB (decide (((ws.length : Nat) : Int) < 2))), (23, vB (decide (((ws.length : Nat) : Int) < 2))), (29, vB ((decide (((ws.length : Nat) : Int) < 2)) || (!(R39.symV (ws.getD 1 []))))), (33, vL wsA ws.length wsC), (34, vL (subA wsA wsC 2 1) ((ws.drop 2).length) (wsC - 2))]) (L' := [Ent.blk b2 79 [vI 0, vI 0], Ent.blk b1 82 [vL rowsA rows.length rowsC, vS cl, vB false], Ent.blk r 77 [sy, Value.map (some qB), qo], Ent.mp vS qB (P.map R39.procE)]) ⟨rfl, rfl, rfl, rfl, rfl, rfl, rfl, rfl, rfl, rfl, rfl, rfl, rfl, rfl, (congrArg (fun n : Nat => some (Value.slice (subA wsA wsC 2 1) n (wsC - 2))) (by exact List.length_drop.symm)), trivial⟩ (fun _ h => h) ?_
   refine JO_callB [] [] [Ent.blk b2 79 [vI 0, vI 0], Ent.blk b1 82 [vL rowsA rows.length rowsC, vS cl, vB false], Ent.blk r 77 [sy, Value.map (some qB), qo], Ent.mp vS qB (P.map R39.procE)] rfl trivial (fun _ => x_call Ty.ca98 rfl) (fun _ h => h) (fun _ h => by cases h) (fun w hS => vals_ok _ _ _ w (hro6.on hS (fun _ h => by cases h)) (hT.on hS (fun _ h => by cases h)) hy_ hy_ hy_) ?_
   rintro wc _ _ wbhB8 ⟨rV, rVB, rfl, rfl, rVR, hf7⟩ hc0 hB8
   have rowsR := rowsR.again hB8
   have wsR := wsR.again hB8
   have hro6 := hro6.again hB8
   have hT := hT.again hB8
   have rVR0 := rVR.mono (lown_rangeAF (w00 := w) hc0 hc0.fr.size)
   have rVR := rVR.mono (lown_rangeA hc0)
   refine s_ mv_ (s_ (ex_ 0) (s_ (ex_ 1) (s_ av_ (s_ av_ (z_ (xk_ [0, 2, 4, 6, 7, 8, 9] ?_))))))
   refine n_ (q_ (q_ (g_ (s_ mv_ (jr_ (vB false) (z_ (n_ (iff_ (sk_ (n_ (q_ (q_ ?_))))))))))))
   rcases Bool.eq_false_or_eq_true (lookK P (ws.getD 1 [])).isSome with hp9 | hp9
   ·obtain ⟨xp, hxp, qx, hxm⟩ := R39.find_some hp9
    refine drB [12] 14 Ty.mixed ?_
    refine jp_ 0 rfl mv_ (jp_ 1 rfl (x_nilCheck rfl) (jp_ 2 rfl (fA 1 Ty.fi77_1) (jq_ 3 rfl (ld_ 2 Ty.sc75) (jp_ 4 rfl mv_ (jq_ 5 rfl (ixM (k := 1) (cells_ro wsR) Tryd.underlying24 Ty.sz9) (jq_ 6 rfl (ldM vS [] (cells_ro wsR) Ty.sc9) ?_))))))
    refine jt_ 7 (Value.tuple #[vG [Value.map (some xp.valsB), vL xp.rowsA xp.rows.length xp.rowsC], vB true]) rfl (x_lookup_okv 3 (f := vS) (k := (ws.getD 1 [])) rfl rfl rfl Tryd.underlying75 (mapK_s Tryd.underlying9) Ty.ze137 (R39.lk_p hxp) rfl rfl) ?_
    refine jp_ 8 rfl mv_ (jp_ 9 rfl (ex_ 0) (jp_ 10 rfl (ex_ 1) (j1_ 11 (jio_ rfl (al_ Ty.ze137 fun b10 => ?_)) gm_)))
    refine j1_ 12 (jio_ rfl (stG 0 Ty.sz137 ?_)) (fun _ h => ⟨h.keep [false, true, true, true, true] rfl, fun _ => h.keep [false, true, true, true, true] rfl⟩)
    refine jp_ 13 rfl av_ ?_
    refine JA_done (by kernel_rfl) (gl_ rfl (fun _ h => h.keep [false, true, true, true, true] rfl)) ?_
    refine n_ (q_ (g_ (s_ mv_ (z_ (xk_ [0, 2, 4, 6, 7, 8, 53] ?_)))))
    refine n_ (ift (q_ (g_ (r_ (ldN 2 [vL rowsA rows.length rowsC, vS cl, vB false] Ty.ag82 Ty.sz82) (c0 (cl_ Ty.ca91) (fun w hS => f91_ok rows _ _ cl _ 5 w (rno rowsR hS) hy_) (s_ av_ (o_ (stG 1 Ty.sz79 ?_))))))))
    refine z_ (n_ (rt_ (nr_ ?_)))
    refine JX_retsD [_, _] (Value.tuple #[_, _]) Tryd.results87 (fun w h => ⟨rfl, ⟨_, rfl, load_blkN 1 [vI ((rows.getD 0 default).number), vI 5] h rfl Ty.ag79 Ty.sz79 rfl⟩, trivial⟩) rfl _ (fun _ h => h.keep [false, false, false, true, true] rfl) (fun _ _ h => (hB8.back _ _ h)) (fun wx hw => ⟨0, (rows.getD 0 default).number, 5, ([] : R39.PL), ?_, ?_, R39.pkv_nil, ?_, ?_, ?_⟩)
    ·rfl
    ·have e_y0 : ((P.map R39.procE) : List (Bytes × Value)) = ((P ++ ([] : R39.PL)).map R39.procE) := by
      exact c39i0_
     have e_all := (congrArg (fun (y0 : List (Bytes × Value)) => [Ent.blk r 77 [sy, Value.map (some qB), qo], Ent.mp vS qB y0]) e_y0)
     exact e_all
    ·exact c39i2_
    ·exact c39i1_
    ·intro m o
     first
      | (rw [List.append_nil]; first | exact .err (R39.proc_e3 (by assumption)) (by decide) | exact .err (R39.proc_e3v (by assumption) hv9) (by decide) | exact .err (R39.proc_e5 (by assumption) hf7 hxp) (by decide) | exact .err (R39.proc_e3n (by assumption) hf7 hxn (i1_0.none_ (by omega))) (by decide))
      | exact .inl ⟨k + 1, R39.proc_ok (by assumption) hf7 hxn (i1_0.hit (by omega) (R39.isEnd_B (by assumption))) rfl rfl, rfl, rfl, rfl⟩
   ·have hxn := R39.find_none hp9
    refine drB [12] 14 Ty.mixed ?_
    refine jp_ 0 rfl mv_ (jp_ 1 rfl (x_nilCheck rfl) (jp_ 2 rfl (fA 1 Ty.fi77_1) (jq_ 3 rfl (ld_ 2 Ty.sc75) (jp_ 4 rfl mv_ (jq_ 5 rfl (ixM (k := 1) (cells_ro wsR) Tryd.underlying24 Ty.sz9) (jq_ 6 rfl (ldM vS [] (cells_ro wsR) Ty.sc9) ?_))))))
    refine jt_ 7 (Value.tuple #[vG [Value.map none, vL none 0 0], vB false]) rfl (x_lookup_okv 3 (f := vS) (k := (ws.getD 1 [])) rfl rfl rfl Tryd.underlying75 (mapK_s Tryd.underlying9) Ty.ze137 (R39.lk_n hxn) rfl rfl) ?_
    refine jp_ 8 rfl mv_ (jp_ 9 rfl (ex_ 0) (jp_ 10 rfl (ex_ 1) (j1_ 11 (jio_ rfl (al_ Ty.ze137 fun b12 => ?_)) gm_)))
    refine j1_ 12 (jio_ rfl (stG 0 Ty.sz137 ?_)) (fun _ h => ⟨h.keep [false, true, true, true, true] rfl, fun _ => h.keep [false, true, true, true, true] rfl⟩)
    refine jp_ 13 rfl av_ ?_
    refine JA_done (by kernel_rfl) (gl_ rfl (fun _ h => h.keep [false, true, true, true, true] rfl)) ?_
    refine n_ (q_ (g_ (s_ mv_ (z_ (xk_ [0, 2, 4, 6, 7, 8, 53] ?_)))))
    refine n_ (iff_ (sk_ (n_ (q_ (q_ (g_ (s_ (fA 0 Ty.fi82_0) (r_ (ld_ 2 Ty.sc68) (s_ (x_subrow (lo := 1) (hi := rows.length) rfl Tryd.underlying68 Ty.sz73 (.inl rfl) (.inr ⟨rfl, rfl⟩) lt_ lt_) ?_)))))))))
    have hro13 := RO.subF rowsR Row.enc_len rowsC 1 (rows.length - 1) lt_
    rw [show rows.length - 1 = (rows.drop 1).length from List.length_drop.symm, List.take_length] at hro13
    refine JO_weaken (E' := [(0, pB r 0), (2, vL wsA ws.length wsC), (4, pB b1 0), (6, vI 0), (7, pB b2 0), (8, Value.map (some rVB)), (53, vB false), (56, pB b1 0), (57, vL rowsA rows.length rowsC), (58, vL (subA rowsA rowsC 1 2) ((rows.drop 1).length) (rowsC - 1))]) (L' := [Ent.blk b12 137 [Value.map none, vL none 0 0], Ent.blk b2 79 [vI 0, vI 0], Ent.blk b1 82 [vL rowsA rows.length rowsC, vS cl, vB false], Ent.blk r 77 [sy, Value.map (some qB), qo], Ent.mp vS qB (P.map R39.procE)]) ⟨rfl, rfl, rfl, rfl, rfl, rfl, rfl, rfl, rfl, (congrArg (fun n : Nat => some (Value.slice (subA rowsA rowsC 1 2) n (rowsC - 1))) (by exact List.length_drop.symm)), trivial⟩ (fun _ h => h) ?_
    refine s_ (lnS Tryd.underlying68) (s_ mv_ (z_ (n_ (k_ ?_))))
    refine J_loop (X := Nat) (fun (k : Nat) => (R39.EndJ (rows.drop 1) k) ∧ (k ≤ (rows.drop 1).length)) (fun (k : Nat) => [(0, pB r 0), (2, vL wsA ws.length wsC), (4, pB b1 0), (7, pB b2 0), (8, Value.map (some rVB)), (58, vL (subA rowsA rowsC 1 2) ((rows.drop 1).length) (rowsC - 1)), (59, vI (((rows.drop 1).length : Nat) : Int)), (60, vI ((k : Nat) : Int))]) (fun (k : Nat) => [Ent.blk b2 79 [vI 0, vI 0], Ent.blk b1 82 [vL rowsA rows.length rowsC, vS cl, vB false], Ent.blk r 77 [sy, Value.map (some qB), qo], Ent.mp vS qB (P.map R39.procE)]) (fun (k : Nat) => (rows.drop 1).length - k) (0 : Nat) ?_ ⟨rfl, rfl, rfl, rfl, rfl, rfl, rfl, rfl, trivial⟩ (fun _ h => h.keep [false, true, true, true, true] rfl) ?_
    ·try dsimp only
     refine ⟨?_, ?_⟩
     ·exact R39.EndJ.start
     ·omega
    intro k hI1
    obtain ⟨i1_0, i1_1⟩ := hI1
    try dsimp only at i1_0
    try dsimp only at i1_1
    have htk := R39.txt_drop q6 1 k
    try dsimp only
    refine q_ (g_ (s_ (x_lss_i rfl rfl) (z_ (n_ (q_ ?_)))))
    refine ifd (fun h14w h14 => ?_) (fun h14w h14 => ?_)
    ·refine sk_ (n_ (q_ (k_ (q_ (g_ (s_ mv_ (r_ (ixF Row.enc_len (cells_ro hro13) Tryd.underlying68 Ty.sz73) (r_ (ldFN Row.enc_len (cells_ro hro13) Ty.ag73 Ty.sz73) (o_ (al_ Ty.ze73 fun b15 => ?_))))))))))
     refine s_ av_ (o_ (stG 0 Ty.sz73 ?_))
     refine z_ (n_ (q_ (g_ (s_ (fA 1 Ty.fi73_1) (r_ (ld_ 0 Ty.sc9) ?_)))))
     refine c1 (cl_ Ty.ca10) (fun w hS => f10_ok _ w hy_) ?_
     rintro _ _ ⟨e16, e17, rfl, rfl⟩
     have ha18 := R39.scanW_len (((rows.drop 1).getD k default).text)
     have ha19 := R39.scanW_short (((rows.drop 1).getD k default).text)
     refine s_ mv_ (s_ (ex_ 0) (s_ (ex_ 1) (s_ av_ (s_ av_ (z_ (xk_ [0, 2, 4, 7, 8, 58, 59, 60, 12, 14, 15] ?_))))))
     refine n_ (q_ (g_ (s_ mv_ (s_ (x_eql_i rfl rfl) (s_ mv_ ?_)))))
     refine and_ 3 (decide ((((R39.scanW (((rows.drop 1).getD k default).text)).length : Nat) : Int) = 1)) (fun g20 => ?_) ?_
     ·have g20r := g20
      have g20r := of_decide_eq_true g20r
      refine sg_ g20 mv_ (sg_ g20 (lnS Tryd.underlying24) (sg_ g20 (x_eql_i rfl rfl) ?_))
      exact cr_
     refine s_ mv_ ?_
     refine and_ 4 (decide (((R39.scanW (((rows.drop 1).getD k default).text)).getD 0 []) = ([101, 110, 100] : Bytes))) (fun g21 => ?_) ?_
     ·have g21r := g21
      have ⟨g21r, h22⟩ := band_true g21r
      have g21r := of_decide_eq_true g21r
      have h22 := of_decide_eq_true h22
      refine sg_ g21 mv_ (rg_ g21 (ixM (k := 0) (cells_row 0 rfl) Tryd.underlying24 Ty.sz9) (rg_ g21 (ldM vS [] (cells_row 0 rfl) Ty.sc9) (jg_ g21 (vB (decide (((R39.scanW (((rows.drop 1).getD k default).text)).getD 0 []) = ([101, 110, 100] : Bytes)))) (x_eql_s rfl rfl) ?_)))
      exact cr_
     refine z_ (n_ ?_)
     refine if_ (fun h23 => ?_) (fun h23 => ?_)
     ·have h23w := h23
      have ⟨h23, h24⟩ := band_true h23
      have ⟨h23, h25⟩ := band_true h23
      have h23 := of_decide_eq_true h23
      have h25 := of_decide_eq_true h25
      have h24 := of_decide_eq_true h24
      refine q_ ?_
      refine drU [] [14] 15 Ty.mixed ?_
      refine jp_ 0 rfl mv_ (jp_ 1 rfl (x_nilCheck rfl) (jp_ 2 rfl (fA 1 Ty.fi77_1) ?_))
      refine JA_early 3 (Value.map (some qB)) rfl (by kernel_rfl) (by kernel_rfl) (by kernel_rfl) rfl (by kernel_rfl) (fun _ _ _ h => h) rfl trivial (x_load 4 rfl rfl Ty.sc75 rfl) ?_
      refine jp_ 4 rfl mv_ (jq_ 5 rfl (ixM (k := 1) (cells_ro wsR) Tryd.underlying24 Ty.sz9) (jq_ 6 rfl (ldM vS [] (cells_ro wsR) Ty.sc9) (jp_ 7 rfl mv_ (jp_ 8 rfl (fA 0 Ty.fi82_0) ?_))))
      refine JA_early 9 (vL rowsA rows.length rowsC) rfl (by kernel_rfl) (by kernel_rfl) (by kernel_rfl) rfl (by kernel_rfl) (fun _ _ _ h => h) rfl trivial (x_load 3 rfl rfl Ty.sc68 rfl) ?_
      refine jp_ 10 rfl mv_ (jp_ 11 rfl (x_add_n (a := k) (b := 1) rfl rfl (by omega)) (jp_ 12 rfl (x_subrow (lo := 1) (hi := k + 1) rfl Tryd.underlying68 Ty.sz73 (.inl rfl) (.inl rfl) lt_ lt_) ?_))
      have hro26 := RO.subF rowsR Row.enc_len rowsC 1 ((k + 1) - 1) lt_
      refine JA_weaken (E' := [(0, pB r 0), (2, vL wsA ws.length wsC), (4, pB b1 0), (7, pB b2 0), (8, Value.map (some rVB)), (58, vL (subA rowsA rowsC 1 2) ((rows.drop 1).length) (rowsC - 1)), (59, vI (((rows.drop 1).length : Nat) : Int)), (60, vI ((k : Nat) : Int)), (12, vI ((k : Nat) : Int)), (14, vL e16 ((R39.scanW (((rows.drop 1).getD k default).text)).length) e17), (15, vI (R39.scanE (((rows.drop 1).getD k default).text))), (71, vI (R39.scanE (((rows.drop 1).getD k default).text))), (72, vB (decide (R39.scanE (((rows.drop 1).getD k default).text) = 0))), (73, vB (decide (R39.scanE (((rows.drop 1).getD k default).text) = 0))), (77, vB ((decide (R39.scanE (((rows.drop 1).getD k default).text) = 0)) && (decide ((((R39.scanW (((rows.drop 1).getD k default).text)).length : Nat) : Int) = 1)))), (78, vB ((decide (R39.scanE (((rows.drop 1).getD k default).text) = 0)) && (decide ((((R39.scanW (((rows.drop 1).getD k default).text)).length : Nat) : Int) = 1)))), (83, vB (((decide (R39.scanE (((rows.drop 1).getD k default).text) = 0)) && (decide ((((R39.scanW (((rows.drop 1).getD k default).text)).length : Nat) : Int) = 1))) && (decide (((R39.scanW (((rows.drop 1).getD k default).text)).getD 0 []) = ([101, 110, 100] : Bytes))))), (84, pB r 0), (85, pB r 0), (86, pB r 1), (87, Value.map (some qB)), (88, vL wsA ws.length wsC), (89, pA wsA 1), (90, vS (ws.getD 1 [])), (91, Value.map (some rVB)), (92, pB b1 0), (93, vL rowsA rows.length rowsC), (94, vI ((k : Nat) : Int)), (95, vI ((k + 1 : Nat) : Int)), (96, vL (subA rowsA rowsC 1 2) (((rows.drop 1).take ((k + 1) - 1)).length) (rowsC - 1))]) (L' := [Ent.row (.slice e16 (R39.scanW (((rows.drop 1).getD k default).text)).length e17) 9 1 (R39.scanW (((rows.drop 1).getD k default).text)).length ((R39.scanW (((rows.drop 1).getD k default).text)).map vS), Ent.blk b15 73 [vI (((rows.drop 1).getD k default).number), vS (((rows.drop 1).getD k default).text)], Ent.blk b2 79 [vI 0, vI 0], Ent.blk b1 82 [vL rowsA rows.length rowsC, vS cl, vB false], Ent.blk r 77 [sy, Value.map (some qB), qo], Ent.mp vS qB (P.map R39.procE)]) ⟨rfl, rfl, rfl, rfl, rfl, rfl, rfl, rfl, rfl, rfl, rfl, rfl, rfl, rfl, rfl, rfl, rfl, rfl, rfl, rfl, rfl, rfl, rfl, rfl, rfl, rfl, rfl, rfl, rfl, (congrArg (fun n : Nat => some (Value.slice (subA rowsA rowsC 1 2) n (rowsC - 1))) lt_), trivial⟩ (fun _ h => h) ?_
      refine jt_ 13 (vG [Value.map (some rVB), vL (subA rowsA rowsC 1 2) (((rows.drop 1).take ((k + 1) - 1)).length) (rowsC - 1)]) rfl (fun _ _ => x_build (by kernel_rfl)) ?_
      refine j1_ 14 ?_ (fun _ h => ⟨h.keep [false, false, false, false, false, false] rfl, fun _ => h⟩)
      refine jio_ rfl (O_mapUpdate 5 (f := vS) (k := (ws.getD 1 [])) ((putK P (ws.getD 1 []) (Proc.mk rV rVB ((rows.drop 1).take ((k + 1) - 1)) (subA rowsA rowsC 1 2) (rowsC - 1))).map R39.procE) [Ent.row (.slice e16 (R39.scanW (((rows.drop 1).getD k default).text)).length e17) 9 1 (R39.scanW (((rows.drop 1).getD k default).text)).length ((R39.scanW (((rows.drop 1).getD k default).text)).map vS), Ent.blk b15 73 [vI (((rows.drop 1).getD k default).number), vS (((rows.drop 1).getD k default).text)], Ent.blk b2 79 [vI 0, vI 0], Ent.blk b1 82 [vL rowsA rows.length rowsC, vS cl, vB false], Ent.blk r 77 [sy, Value.map (some qB), qo], Ent.mp vS qB ((putK P (ws.getD 1 []) (Proc.mk rV rVB ((rows.drop 1).take ((k + 1) - 1)) (subA rowsA rowsC 1 2) (rowsC - 1))).map R39.procE)] rfl rfl rfl rfl Tryd.underlying75 (mapK_s Tryd.underlying9) (R39.upd_procs P (ws.getD 1 []) (Proc.mk rV rVB ((rows.drop 1).take ((k + 1) - 1)) (subA rowsA rowsC 1 2) (rowsC - 1))) rfl ?_)
      refine JA_done (by kernel_rfl) (gl_ rfl (fun _ h => h.keep [false, false, false, false, false, false] rfl)) ?_
      refine n_ (q_ (g_ (s_ mv_ (s_ (x_add_n (a := k) (b := 1) rfl rfl (by omega)) (js_ (vG [vI 0, vI 0]) (x_build (by kernel_rfl)) (s_ av_ (o_ (stG 2 Ty.sz79 ?_))))))))
      refine z_ (xk_ [0, 2, 4, 7, 8, 58, 59, 60, 6] ?_)
      refine n_ (rt_ (kq_ (nr_ (rr_ (kq_ (nr_ ?_))))))
      refine JX_retsD [_, _] (Value.tuple #[_, _]) Tryd.results87 (fun w h => ⟨rfl, ⟨_, rfl, load_blkN 2 [vI 0, vI 0] h rfl Ty.ag79 Ty.sz79 rfl⟩, trivial⟩) rfl _ (fun _ h => h.keep [false, false, false, false, true, true] rfl) (fun _ _ h => (hB8.back _ _ h)) (fun wx hw => ⟨((k + 1 : Nat) : Int), 0, 0, [((ws.getD 1 []), (Proc.mk rV rVB ((rows.drop 1).take ((k + 1) - 1)) (subA rowsA rowsC 1 2) (rowsC - 1)))], ?_, ?_, (R39.pkv_one (rVR0.againF (hw.keep [false, false, false, false, true, true] rfl))), ?_, ?_, ?_⟩)
      ·rfl
      ·have e_y0 : (((putK P (ws.getD 1 []) (Proc.mk rV rVB ((rows.drop 1).take ((k + 1) - 1)) (subA rowsA rowsC 1 2) (rowsC - 1))).map R39.procE) : List (Bytes × Value)) = ((P ++ [((ws.getD 1 []), (Proc.mk rV rVB ((rows.drop 1).take ((k + 1) - 1)) (subA rowsA rowsC 1 2) (rowsC - 1)))]).map R39.procE) := by
        exact c39i0_
       have e_all := (congrArg (fun (y0 : List (Bytes × Value)) => [Ent.blk r 77 [sy, Value.map (some qB), qo], Ent.mp vS qB y0]) e_y0)
       exact e_all
      ·exact c39i2_
      ·exact c39i1_
      ·intro m o
       first
        | (rw [List.append_nil]; first | exact .err (R39.proc_e3 (by assumption)) (by decide) | exact .err (R39.proc_e3v (by assumption) hv9) (by decide) | exact .err (R39.proc_e5 (by assumption) hf7 hxp) (by decide) | exact .err (R39.proc_e3n (by assumption) hf7 hxn (i1_0.none_ (by omega))) (by decide))
        | exact .inl ⟨k + 1, R39.proc_ok (by assumption) hf7 hxn (i1_0.hit (by omega) (R39.isEnd_B (by assumption))) rfl rfl, rfl, rfl, rfl⟩
     ·have h23w := h23
      simp only [Bool.and_eq_true, Bool.or_eq_true, Bool.and_eq_false_iff, Bool.or_eq_false_iff, Bool.not_eq_true', Bool.not_eq_false', decide_eq_true_eq, decide_eq_false_iff_not] at h23
      refine sk_ (kx_ (n_ (g_ (s_ (x_add_n (a := k) (b := 1) rfl rfl (by omega)) (s_ mv_ (z_ ?_))))))
      refine JX_round (k + 1 : Nat) ?_ ?_ ⟨rfl, rfl, rfl, rfl, rfl, rfl, rfl, rfl, trivial⟩ (fun _ h => h.keep [false, false, true, true, true, true] rfl)
      ·try dsimp only
       refine ⟨?_, ?_⟩
       ·exact i1_0.step (by omega) (R39.isEnd_B (by assumption))
       ·omega
      ·try dsimp only
       first | omega | (simp; omega) | (simp_all; omega)
    ·refine J_exit (ne_ (re_ (kh_ (n_ (q_ ?_)))))
     refine g_ (r_ (ldN 1 [vL rowsA rows.length rowsC, vS cl, vB false] Ty.ag82 Ty.sz82) (c0 (cl_ Ty.ca91) (fun w hS => f91_ok rows _ _ cl _ 3 w (rno rowsR hS) hy_) (s_ av_ (o_ (stG 0 Ty.sz79 ?_)))))
     refine z_ (n_ (rt_ ?_))
     refine JX_retsD [_, _] (Value.tuple #[_, _]) Tryd.results87 (fun w h => ⟨rfl, ⟨_, rfl, load_blkN 0 [vI ((rows.getD 0 default).number), vI 3] h rfl Ty.ag79 Ty.sz79 rfl⟩, trivial⟩) rfl _ (fun _ h => h.keep [false, false, true, true] rfl) (fun _ _ h => (hB8.back _ _ h)) (fun wx hw => ⟨0, (rows.getD 0 default).number, 3, ([] : R39.PL), ?_, ?_, R39.pkv_nil, ?_, ?_, ?_⟩)
     ·rfl
     ·have e_y0 : ((P.map R39.procE) : List (Bytes × Value)) = ((P ++ ([] : R39.PL)).map R39.procE) := by
       exact c39i0_
      have e_all := (congrArg (fun (y0 : List (Bytes × Value)) => [Ent.blk r 77 [sy, Value.map (some qB), qo], Ent.mp vS qB y0]) e_y0)
      exact e_all
     ·exact c39i2_
     ·exact c39i1_
     ·intro m o
      first
       | (rw [List.append_nil]; first | exact .err (R39.proc_e3 (by assumption)) (by decide) | exact .err (R39.proc_e3v (by assumption) hv9) (by decide) | exact .err (R39.proc_e5 (by assumption) hf7 hxp) (by decide) | exact .err (R39.proc_e3n (by assumption) hf7 hxn (i1_0.none_ (by omega))) (by decide))
       | exact .inl ⟨k + 1, R39.proc_ok (by assumption) hf7 hxn (i1_0.hit (by omega) (R39.isEnd_B (by assumption))) rfl rfl, rfl, rfl, rfl⟩
  ·refine g_ (s_ mv_ (s_ (x_subrow (lo := 2) (hi := ws.length) rfl Tryd.underlying24 Ty.sz9 (.inl rfl) (.inr ⟨rfl, rfl⟩) lt_ lt_) ?_))
   have hro27 := RO.subM wsR wsC 2 (ws.length - 2) lt_
   rw [show ws.length - 2 = (ws.drop 2).length from List.length_drop.symm, List.take_length] at hro27
   refine JO_weaken (E' := [(0, pB r 0), (1, vG [vL rowsA rows.length rowsC, vS cl, vB false]), (2, vL wsA ws.length wsC), (4, pB b1 0), (6, vI 0), (7, pB b2 0), (16, pB b1 2), (17, vB false), (20, vL wsA ws.length wsC), (21, vI ((ws.length : Nat) : Int)), (22, vB (decide (((ws.length : Nat) : Int) < 2))), (23, vB (decide (((ws.length : Nat) : Int) < 2))), (29, vB ((decide (((ws.length : Nat) : Int) < 2)) || (!(R39.symV (ws.getD 1 []))))), (33, vL wsA ws.length wsC), (34, vL (subA wsA wsC 2 1) ((ws.drop 2).length) (wsC - 2))]) (L' := [Ent.blk b2 79 [vI 0, vI 0], Ent.blk b1 82 [vL rowsA rows.length rowsC, vS cl, vB false], Ent.blk r 77 [sy, Value.map (some qB), qo], Ent.mp vS qB (P.map R39.procE)]) ⟨rfl, rfl, rfl, rfl, rfl, rfl, rfl, rfl, rfl, rfl, rfl, rfl, rfl, rfl, (congrArg (fun n : Nat => some (Value.slice (subA wsA wsC 2 1) n (wsC - 2))) (by exact List.length_drop.symm)), trivial⟩ (fun _ h => h) ?_
   refine c0 (cl_ Ty.ca98) (fun w hS => vals_no _ _ _ w (rno hro27 hS) (hT.on hS (fun _ h => by cases h)) hy_ hy_ hy_) (s_ mv_ (s_ (ex_ 0) (s_ (ex_ 1) (s_ av_ (s_ av_ (z_ (xk_ [0, 2, 4, 6, 7, 8, 9] ?_)))))))
   refine n_ (q_ (q_ (g_ (s_ mv_ (jr_ (vB true) (z_ (n_ (ift (q_ (g_ (r_ (ldN 1 [vL rowsA rows.length rowsC, vS cl, vB false] Ty.ag82 Ty.sz82) (c0 (cl_ Ty.ca91) (fun w hS => f91_ok rows _ _ cl _ 3 w (rno rowsR hS) hy_) (s_ av_ (o_ (stG 0 Ty.sz79 ?_)))))))))))))))
   refine z_ (n_ (rt_ (nr_ ?_)))
   refine JX_retsD [_, _] (Value.tuple #[_, _]) Tryd.results87 (fun w h => ⟨rfl, ⟨_, rfl, load_blkN 0 [vI ((rows.getD 0 default).number), vI 3] h rfl Ty.ag79 Ty.sz79 rfl⟩, trivial⟩) rfl _ (fun _ h => h.keep [false, false, true, true] rfl) (fun _ _ h => h) (fun wx hw => ⟨0, (rows.getD 0 default).number, 3, ([] : R39.PL), ?_, ?_, R39.pkv_nil, ?_, ?_, ?_⟩)
   ·rfl
   ·have e_y0 : ((P.map R39.procE) : List (Bytes × Value)) = ((P ++ ([] : R39.PL)).map R39.procE) := by
     exact c39i0_
    have e_all := (congrArg (fun (y0 : List (Bytes × Value)) => [Ent.blk r 77 [sy, Value.map (some qB), qo], Ent.mp vS qB y0]) e_y0)
    exact e_all
   ·exact c39i3_
   ·exact c39i1_
   ·intro m o
    first
     | (rw [List.append_nil]; first | exact .err (R39.proc_e3 (by assumption)) (by decide) | exact .err (R39.proc_e3v (by assumption) hv9) (by decide) | exact .err (R39.proc_e5 (by assumption) no_such_condition hxp) (by decide) | exact .err (R39.proc_e3n (by assumption) no_such_condition hxn (i1_0.none_ (by omega))) (by decide))
     | exact .inl ⟨k + 1, R39.proc_ok (by assumption) no_such_condition hxn (i1_0.hit (by omega) (R39.isEnd_B (by assumption))) rfl rfl, rfl, rfl, rfl⟩
end Go.Proofs.YtbfiibgmgopnaaaDoor

namespace Go.Proofs.YtbfiibgmgopnaaaDoor
open Go.GV
namespace R39
section
variable {x : Row} {rest : List Row} {s : RS} {ws : List Bytes} {M M2 : List KV} {P NP : PL} {o y : List Statement}
theorem out_idle (h : (decide (trim x.text = []) || decide ((trim x.text).getD 0 0 = 35)) = true) : lineOut x rest s = .ok (0, s) := by unfold lineOut; rw [if_pos (idle_yes h)]
theorem out_repl (h : (decide (trim x.text = []) || decide ((trim x.text).getD 0 0 = 35)) = false) (h2 : exE (replV s.syms x.text) ≠ 0) : lineOut x rest s = .error (x.number, exE (replV s.syms x.text)) := by
  unfold lineOut; rw [if_neg (by rw [idle_no h]; decide)]
  rw [replV_bad h2]; rfl
theorem out_scan (h : (decide (trim x.text = []) || decide ((trim x.text).getD 0 0 = 35)) = false) (h2 : ¬ exE (replV s.syms x.text) ≠ 0) (h3 : scanE (exV (replV s.syms x.text)) ≠ 0) : lineOut x rest s = .error (x.number, scanE (exV (replV s.syms x.text))) := by
  have e3 : scanE (exV (replV s.syms x.text)) = 3 := by unfold scanE; rw [scan_bad' h3]
  rw [e3]
  unfold lineOut; rw [if_neg (by rw [idle_no h]; decide), replV_code h2]
  show (match scan (exV (replV s.syms x.text)) with | none => _ | some ws => _) = _
  rw [scan_bad' h3]
section
variable (h : LnK x s.syms ws)
include h
theorem out_words : lineOut x rest s = if ws = [] then .ok (0, s)
      else if ws.getD 0 [] = wJOB ∨ ws.getD 0 [] = wSTEP ∨ ws.getD 0 [] = wDD then stmV x.number [] ws rest s
      else if ws.getD 0 [] = wSET then
        (if ws.length ≠ 3 ∨ symV (ws.getD 1 []) = false then .error (x.number, 3) else .ok (0, { s with syms := setS s.syms (ws.getD 1 []) (ws.getD 2 []) }))
      else if ws.getD 0 [] = wPROC then procV x.number ws rest s
      else if ws.getD 0 [] = wEND then .error (x.number, 9)
      else if ws.getD 0 [] = wCALL then callV x.number ws s
      else .error (x.number, 3) := by
  cases h with
  | mk h1 h2 h3 =>
    unfold lineOut; rw [if_neg (by rw [h1]; decide), h2]
    show (match scan (exV (replV s.syms x.text)) with | none => _ | some ws => _) = _
    rw [h3]
theorem out_none (h0 : ws = []) : lineOut x rest s = .ok (0, s) := by rw [out_words h, if_pos h0]
theorem out_stm (h0 : ws ≠ []) (hk : ws.getD 0 [] = wJOB ∨ ws.getD 0 [] = wSTEP ∨ ws.getD 0 [] = wDD) : lineOut x rest s = stmV x.number [] ws rest s := by rw [out_words h, if_neg h0, if_pos hk]
theorem out_set (h0 : ws ≠ []) (hk : ws.getD 0 [] = wSET) : lineOut x rest s = (if ws.length ≠ 3 ∨ symV (ws.getD 1 []) = false then .error (x.number, 3) else .ok (0, { s with syms := setS s.syms (ws.getD 1 []) (ws.getD 2 []) })) := by
  rw [out_words h, if_neg h0, if_neg (by rw [hk]; decide), if_pos hk]
theorem out_proc (h0 : ws ≠ []) (hk : ws.getD 0 [] = wPROC) : lineOut x rest s = procV x.number ws rest s := by
  rw [out_words h, if_neg h0, if_neg (by rw [hk]; decide), if_neg (by rw [hk]; decide), if_pos hk]
theorem out_end (h0 : ws ≠ []) (hk : ws.getD 0 [] = wEND) : lineOut x rest s = .error (x.number, 9) := by
  rw [out_words h, if_neg h0, if_neg (by rw [hk]; decide), if_neg (by rw [hk]; decide), if_neg (by rw [hk]; decide), if_pos hk]
theorem out_call (h0 : ws ≠ []) (hk : ws.getD 0 [] = wCALL) : lineOut x rest s = callV x.number ws s := by
  rw [out_words h, if_neg h0, if_neg (by rw [hk]; decide), if_neg (by rw [hk]; decide), if_neg (by rw [hk]; decide), if_neg (by rw [hk]; decide), if_pos hk]
theorem out_three (h0 : ws ≠ []) (hk : ws.getD 0 [] ≠ wSET ∧ ws.getD 0 [] ≠ wPROC ∧ ws.getD 0 [] ≠ wEND ∧ ws.getD 0 [] ≠ wCALL ∧ ws.getD 0 [] ≠ wJOB ∧ ws.getD 0 [] ≠ wSTEP ∧ ws.getD 0 [] ≠ wDD) : lineOut x rest s = .error (x.number, 3) := by
  obtain ⟨k1, k2, k3, k4, k5, k6, k7⟩ := hk
  rw [out_words h, if_neg h0, if_neg (fun hh => by rcases hh with e | e | e <;> first | exact k5 e | exact k6 e | exact k7 e), if_neg k1, if_neg k2, if_neg k3, if_neg k4]
end
theorem SetJ.line {fl fc : Int} (h : SetJ x.number ws M M2 fl fc) : LnJ (if ws.length ≠ 3 ∨ symV (ws.getD 1 []) = false then .error (x.number, 3) else .ok (0, { rsOf (lookK M) P o with syms := setS (lookK M) (ws.getD 1 []) (ws.getD 2 []) })) 0 fl fc (rsOf (lookK M2) P o) := by
  rcases h with ⟨h1, h2, h3, h4⟩ | ⟨h1, h2, h3, h4⟩
  · rw [if_neg h1, h2, look_set, h3, h4]; exact .inl ⟨0, rfl, rfl, rfl, rfl⟩
  · rw [if_pos h1, h3, h4]; exact .inr ⟨rfl, by decide⟩
theorem StmJ.lineO {R : Res (Nat × List Bytes)} {e : Statement} {l : List Bytes} {n fl fc : Int} {num : Int} {m : Syms} (h : StmJ (stmN o.length num ws rest) o y e l n fl fc) (he : pur e = ⟨num, [], ws, l⟩) : LnJ (stmV num [] ws rest (rsOf m P o)) n fl fc (rsOf m P (o ++ y.drop o.length)) := StmJ.line h he
theorem lineOut_rows {t : RS} {k : Nat} (h : lineOut x rest s = .ok (k, t)) : k ≤ rest.length := by
  unfold lineOut at h
  split at h
  · cases h; exact Nat.zero_le _
  · split at h
    · cases h
    · split at h
      · cases h
      · rename_i ws _
        split at h
        · cases h; exact Nat.zero_le _
        · split at h
          · exact stmV_rows h
          · split at h
            · split at h
              · cases h
              · cases h; exact Nat.zero_le _
            · split at h
              · exact procV_rows h
              · split at h
                · cases h
                · split at h
                  · have := callV_rows h; omega
                  · cases h
where
  procV_rows {num : Int} {ws : List Bytes} {t : RS} {k : Nat} (h : procV num ws rest s = .ok (k, t)) : k ≤ rest.length := by
    unfold procV at h
    split at h
    · cases h
    · split at h
      · cases h
      · split at h
        · cases h
        · cases hf : findEnd rest with
          | none => rw [hf] at h; cases h
          | some i => rw [hf] at h; cases h; exact find_lt rest i hf
  find_lt : ∀ (l : List Row) (i : Nat), findEnd l = some i → i + 1 ≤ l.length
  | [], _, h => by cases h
  | x :: r, i, h => by
    rw [findEnd] at h
    split at h
    · cases h; exact Nat.succ_le_succ (Nat.zero_le _)
    · cases hr : findEnd r with
      | none => rw [hr] at h; cases h
      | some j => rw [hr] at h; cases h; exact Nat.succ_le_succ (find_lt r j hr)
end
section
variable {rows X : List Row} {s0 s s' : RS} {k : Nat} {e : Int × Int} {n fl fc : Int}
theorem LnJ.ok1 {R : Res (Nat × RS)} (h : LnJ R n fl fc s) (hc : ¬ fc ≠ 0) : ∃ k : Nat, n = k ∧ R = .ok (k, s) := by
  rcases h with ⟨k, hr, hn, _⟩ | ⟨_, h2⟩
  · exact ⟨k, hn, hr⟩
  · exact absurd h2 hc
theorem LnJ.er1 {R : Res (Nat × RS)} (h : LnJ R n fl fc s) (hc : fc ≠ 0) : R = .error (fl, fc) := by
  rcases h with ⟨_, _, _, _, h2⟩ | ⟨h1, _⟩
  · exact absurd h2 hc
  · exact h1
theorem readO_step (h : readOut rows s0 = readOut X s) (hx : 0 < X.length) (hk : lineOut (X.getD 0 default) (X.drop 1) s = .ok (k, s')) : readOut rows s0 = readOut (X.drop (k + 1)) s' := by
  rw [h, row_head hx, readOut_cons, hk]
  show readOut ((X.drop 1).drop k) s' = _
  rw [drop_more, ← row_head hx]
theorem readO_err (h : readOut rows s0 = readOut X s) (hx : 0 < X.length) (hk : lineOut (X.getD 0 default) (X.drop 1) s = .error e) : readOut rows s0 = .error e := by
  rw [h, row_head hx, readOut_cons, hk]
theorem readO_done (h : readOut rows s0 = readOut X s) (hx : ¬ 0 < X.length) : readOut rows s0 = .ok s := by
  have : X = [] := List.length_eq_zero_iff.1 (by omega)
  rw [h, this]; rfl
end
end R39
end Go.Proofs.YtbfiibgmgopnaaaDoor
