/- Pl39l, C39f, Pl39m in one text. -/
import Derived.Test.YtbfiibgmgopnaaaDoorJobtextLines10
import Derived.Test.YtbfiibgmgopnaaaDoorJobtextLines5
import Derived.Test.YtbfiibgmgopnaaaDoorJobtextLines11
set_option linter.unusedVariables false
set_option linter.unusedSimpArgs false
namespace Go.Proofs.YtbfiibgmgopnaaaDoor
open Go.GV
namespace R39
theorem key_cases (x : Bytes) : x = wSET ∨ x = wPROC ∨ x = wEND ∨ x = wCALL ∨ x = wJOB ∨ x = wSTEP ∨ x = wDD ∨ (x ≠ wSET ∧ x ≠ wPROC ∧ x ≠ wEND ∧ x ≠ wCALL ∧ x ≠ wJOB ∧ x ≠ wSTEP ∧ x ≠ wDD) := by
  by_cases h1 : x = wSET
  · exact .inl h1
  by_cases h2 : x = wPROC
  · exact .inr (.inl h2)
  by_cases h3 : x = wEND
  · exact .inr (.inr (.inl h3))
  by_cases h4 : x = wCALL
  · exact .inr (.inr (.inr (.inl h4)))
  by_cases h5 : x = wJOB
  · exact .inr (.inr (.inr (.inr (.inl h5))))
  by_cases h6 : x = wSTEP
  · exact .inr (.inr (.inr (.inr (.inr (.inl h6)))))
  by_cases h7 : x = wDD
  · exact .inr (.inr (.inr (.inr (.inr (.inr (.inl h7))))))
  exact .inr (.inr (.inr (.inr (.inr (.inr (.inr ⟨h1, h2, h3, h4, h5, h6, h7⟩))))))
theorem keys_none {x : Bytes} (h1 : x ≠ wSET) (h2 : x ≠ wPROC) (h3 : x ≠ wEND) (h4 : x ≠ wCALL) (h5 : x ≠ wJOB) (h6 : x ≠ wSTEP) (h7 : x ≠ wDD) : x ≠ wSET ∧ x ≠ wPROC ∧ x ≠ wEND ∧ x ≠ wCALL ∧ x ≠ wJOB ∧ x ≠ wSTEP ∧ x ≠ wDD := ⟨h1, h2, h3, h4, h5, h6, h7⟩
theorem len0 {ws : List Bytes} (h : ((ws.length : Nat) : Int) = 0) : ws = [] := List.length_eq_zero_iff.1 (by omega)
theorem len1 {ws : List Bytes} (h : ¬ ((ws.length : Nat) : Int) = 0) : ws ≠ [] := fun e => h (by rw [e]; rfl)
def LnJ (R : Res (Nat × RS)) (n fl fc : Int) (s : RS) : Prop := (∃ k : Nat, R = .ok (k, s) ∧ n = k ∧ fl = 0 ∧ fc = 0) ∨ (R = .error (fl, fc) ∧ fc ≠ 0)
theorem LnJ.zero {R : Res (Nat × RS)} {s : RS} (h : R = .ok (0, s)) : LnJ R 0 0 0 s := .inl ⟨0, h, rfl, rfl, rfl⟩
theorem LnJ.err {R : Res (Nat × RS)} {n a b : Int} {s : RS} (h : R = .error (a, b)) (hb : b ≠ 0) : LnJ R n a b s := .inr ⟨h, hb⟩
section
variable {cl : Bytes} {x : Row} {rest : List Row} {s : RS}
theorem idle_yes {t : Bytes} (h : (decide (trim t = []) || decide ((trim t).getD 0 0 = 35)) = true) : idle t = true := by
  unfold idle
  cases e : trim t with
  | nil => rfl
  | cons c r =>
    rw [e] at h
    rw [decide_eq_false (List.cons_ne_nil c r)] at h
    exact h
theorem idle_no {t : Bytes} (h : (decide (trim t = []) || decide ((trim t).getD 0 0 = 35)) = false) : idle t = false := by
  unfold idle
  cases e : trim t with
  | nil => rw [e] at h; cases h
  | cons c r =>
    rw [e] at h
    rw [decide_eq_false (List.cons_ne_nil c r)] at h
    exact h
theorem replV_code {m : Syms} {t : Bytes} (h : ¬ exE (replV m t) ≠ 0) : replV m t = .ok (exV (replV m t)) := by
  have key : ∀ e, replV m t = .error e → e ≠ 0 := fun e he => by
    unfold replV at he
    split at he
    · split at he
      · cases he; decide
      · cases he
    · rename_i e2 hr; cases he; exact repl_code _ _ hr
  cases e : replV m t with
  | ok z => rfl
  | error c => rw [e] at h; exact absurd (key c e) h
where
  repl_code {m : Syms} (t : Bytes) (e : Int) (h : repl m t = .error e) : e ≠ 0 := go (t.length + 1) t h
  go {m : Syms} {e : Int} : ∀ (n : Nat) (t : Bytes), replN m n t = .error e → e ≠ 0
  | 0, _, h => by cases h
  | _ + 1, [], h => by cases h
  | n + 1, c :: t, h => by
    rw [replN] at h
    split at h
    · split at h
      · cases hr : replN m n t.tail with
        | ok z => rw [hr] at h; cases h
        | error e2 => rw [hr] at h; cases h; exact go n _ hr
      · split at h
        · cases h; decide
        · split at h
          · split at h
            · cases h; decide
            · rename_i r _ _ _ v _
              cases hr : replN m n r with
              | ok z => rw [hr] at h; cases h
              | error e2 => rw [hr] at h; cases h; exact go n _ hr
          · cases h; decide
    · cases hr : replN m n t with
      | ok z => rw [hr] at h; cases h
      | error e2 => rw [hr] at h; cases h; exact go n _ hr
theorem replV_bad {m : Syms} {t : Bytes} (h : exE (replV m t) ≠ 0) : replV m t = .error (exE (replV m t)) := by
  cases e : replV m t with
  | ok z => rw [e] at h; exact absurd rfl h
  | error c => rfl
theorem scan_bad' {t : Bytes} (h : scanE t ≠ 0) : scan t = none := by
  unfold scanE at h
  cases e : scan t with
  | none => rfl
  | some l => rw [e] at h; exact absurd rfl h
theorem scan_good {t : Bytes} (h : ¬ scanE t ≠ 0) : scan t = some (scanW t) := by
  unfold scanE at h; unfold scanW
  cases e : scan t with
  | none => rw [e] at h; exact absurd (by decide) h
  | some l => rfl
inductive LnK (x : Row) (m : Syms) : List Bytes → Prop
  | mk {ws : List Bytes} (h1 : idle x.text = false) (h2 : replV m x.text = .ok (exV (replV m x.text))) (h3 : scan (exV (replV m x.text)) = some ws) : LnK x m ws
theorem in_idle (h : (decide (trim x.text = []) || decide ((trim x.text).getD 0 0 = 35)) = true) : lineIn cl x rest s = .ok (0, s) := by unfold lineIn; rw [if_pos (idle_yes h)]
theorem in_repl (h : (decide (trim x.text = []) || decide ((trim x.text).getD 0 0 = 35)) = false) (h2 : exE (replV s.syms x.text) ≠ 0) : lineIn cl x rest s = .error (x.number, exE (replV s.syms x.text)) := by
  unfold lineIn; rw [if_neg (by rw [idle_no h]; decide)]
  rw [replV_bad h2]; rfl
theorem in_scan (h : (decide (trim x.text = []) || decide ((trim x.text).getD 0 0 = 35)) = false) (h2 : ¬ exE (replV s.syms x.text) ≠ 0) (h3 : scanE (exV (replV s.syms x.text)) ≠ 0) : lineIn cl x rest s = .error (x.number, scanE (exV (replV s.syms x.text))) := by
  have e3 : scanE (exV (replV s.syms x.text)) = 3 := by unfold scanE; rw [scan_bad' h3]
  rw [e3]
  unfold lineIn; rw [if_neg (by rw [idle_no h]; decide), replV_code h2]
  show (match scan (exV (replV s.syms x.text)) with | none => _ | some ws => _) = _
  rw [scan_bad' h3]
theorem LnK.of (h : (decide (trim x.text = []) || decide ((trim x.text).getD 0 0 = 35)) = false) (h2 : ¬ exE (replV s.syms x.text) ≠ 0) (h3 : ¬ scanE (exV (replV s.syms x.text)) ≠ 0) {ws : List Bytes} (hw : ws = scanW (exV (replV s.syms x.text))) : LnK x s.syms ws :=
  .mk (idle_no h) (replV_code h2) (by rw [hw]; exact scan_good h3)
section
variable {ws : List Bytes} (h : LnK x s.syms ws)
include h
theorem in_words : lineIn cl x rest s = if ws = [] then .ok (0, s)
      else if ws.getD 0 [] = wJOB ∨ ws.getD 0 [] = wSTEP ∨ ws.getD 0 [] = wDD then stmV x.number cl ws rest s
      else if ws.getD 0 [] = wSET ∨ ws.getD 0 [] = wPROC ∨ ws.getD 0 [] = wEND ∨ ws.getD 0 [] = wCALL then .error (x.number, 9)
      else .error (x.number, 3) := by
  cases h with
  | mk h1 h2 h3 =>
    unfold lineIn; rw [if_neg (by rw [h1]; decide), h2]
    show (match scan (exV (replV s.syms x.text)) with | none => _ | some ws => _) = _
    rw [h3]
theorem in_none (h0 : ws = []) : lineIn cl x rest s = .ok (0, s) := by rw [in_words h, if_pos h0]
theorem in_stm (h0 : ws ≠ []) (hk : ws.getD 0 [] = wJOB ∨ ws.getD 0 [] = wSTEP ∨ ws.getD 0 [] = wDD) : lineIn cl x rest s = stmV x.number cl ws rest s := by rw [in_words h, if_neg h0, if_pos hk]
theorem in_nine (h0 : ws ≠ []) (hk : ws.getD 0 [] = wSET ∨ ws.getD 0 [] = wPROC ∨ ws.getD 0 [] = wEND ∨ ws.getD 0 [] = wCALL) : lineIn cl x rest s = .error (x.number, 9) := by
  rw [in_words h, if_neg h0, if_neg (by rcases hk with hk | hk | hk | hk <;> rw [hk] <;> decide), if_pos hk]
theorem in_three (h0 : ws ≠ []) (hk : ws.getD 0 [] ≠ wSET ∧ ws.getD 0 [] ≠ wPROC ∧ ws.getD 0 [] ≠ wEND ∧ ws.getD 0 [] ≠ wCALL ∧ ws.getD 0 [] ≠ wJOB ∧ ws.getD 0 [] ≠ wSTEP ∧ ws.getD 0 [] ≠ wDD) : lineIn cl x rest s = .error (x.number, 3) := by
  obtain ⟨k1, k2, k3, k4, k5, k6, k7⟩ := hk
  rw [in_words h, if_neg h0, if_neg (fun hh => by rcases hh with e | e | e <;> first | exact k5 e | exact k6 e | exact k7 e), if_neg (fun hh => by rcases hh with e | e | e | e <;> first | exact k1 e | exact k2 e | exact k3 e | exact k4 e)]
end
end
section
variable {R : Res (Nat × List Bytes)} {o y : List Statement} {e : Statement} {l : List Bytes} {n fl fc : Int}
theorem StmJ.new (h : StmJ R o y e l n fl fc) : y = o ++ y.drop o.length := by
  rcases h with ⟨_, _, rfl, _⟩ | ⟨_, _, rfl⟩
  · rw [List.drop_left]
  · rw [List.drop_length, List.append_nil]
theorem StmJ.few (h : StmJ R o y e l n fl fc) : (y.drop o.length).length ≤ 1 := by
  rcases h with ⟨_, _, rfl, _⟩ | ⟨_, _, rfl⟩
  · rw [List.drop_left]; exact Nat.le_refl _
  · rw [List.drop_length]; exact Nat.zero_le _
theorem StmJ.kept {S : List Nat} {w : World} (h : StmJ R o y e l n fl fc) (hk : Kp S w (Statement.ok e)) : Kp S w (okL Statement.ok (y.drop o.length)) := by
  rcases h with ⟨_, _, rfl, _⟩ | ⟨_, _, rfl⟩
  · rw [List.drop_left]
    have h0 : Kp S w (okL Statement.ok ([] : List Statement)) := okL_nil (Kp.and kp_cnil (Kp.and kp_cnil (Kp.pure (Nat.zero_le _))))
    exact okL_snoc h0 hk
  · rw [List.drop_length]; exact okL_nil (Kp.and kp_cnil (Kp.and kp_cnil (Kp.pure (Nat.zero_le _))))
theorem StmJ.line {cl : Bytes} {x : Int} {ws : List Bytes} {rest : List Row} {m : Syms} {P : List (Bytes × Pr)} (h : StmJ (stmN o.length x ws rest) o y e l n fl fc) (he : pur e = ⟨x, cl, ws, l⟩) : LnJ (stmV x cl ws rest ⟨m, P, o.map pur⟩) n fl fc ⟨m, P, (o ++ y.drop o.length).map pur⟩ := by
  have hq := stmV_eq x cl ws rest ⟨m, P, o.map pur⟩
  rw [show (⟨m, P, o.map pur⟩ : RS).out.length = o.length from List.length_map ..] at hq
  rw [← h.new]
  rcases h with ⟨k, hr, rfl, h1, h2, h3⟩ | ⟨hr, h1, rfl⟩
  · rw [hr] at hq
    refine .inl ⟨k, ?_, h1, h2, h3⟩
    rw [hq, List.map_append]
    show Except.ok (k, (⟨m, P, o.map pur ++ [_]⟩ : RS)) = _
    rw [← he]; rfl
  · rw [hr] at hq
    exact .inr ⟨hq, h1⟩
end
theorem okN_nil {S : List Nat} {w : World} : Kp S w (okL Statement.ok ([] : List Statement)) := okL_nil (Kp.and kp_cnil (Kp.and kp_cnil (Kp.pure (Nat.zero_le _))))
theorem inl_rows : ∀ (n : Int) (k : Nat) (r : List Row) (l : List Bytes), inl n k r = .ok l → l.length < r.length
  | _, _, [], _, h => by cases h
  | n, k, x :: r, l, h => by
    rw [inl] at h
    split at h
    · cases h; exact Nat.succ_pos _
    · split at h
      · cases h
      · cases hr : inl n (k + 1) r with
        | error y => rw [hr] at h; cases h
        | ok l2 => rw [hr] at h; cases h; have := inl_rows n (k + 1) r l2 hr; rw [List.length_cons, List.length_cons]; omega
theorem stmV_rows {n : Int} {cl : Bytes} {ws : List Bytes} {rest : List Row} {s t : RS} {k : Nat} (h : stmV n cl ws rest s = .ok (k, t)) : k ≤ rest.length := by
  unfold stmV at h
  split at h
  · cases h
  · split at h
    · cases hi : inl n 0 rest with
      | error e => rw [hi] at h; cases h
      | ok l => rw [hi] at h; cases h; exact inl_rows n 0 rest l hi
    · cases h; exact Nat.zero_le _
theorem lineIn_rows {cl : Bytes} {x : Row} {rest : List Row} {s t : RS} {k : Nat} (h : lineIn cl x rest s = .ok (k, t)) : k ≤ rest.length := by
  unfold lineIn at h
  split at h
  · cases h; exact Nat.zero_le _
  · split at h
    · cases h
    · split at h
      · cases h
      · split at h
        · cases h; exact Nat.zero_le _
        · split at h
          · exact stmV_rows h
          · split at h <;> cases h
end R39
end Go.Proofs.YtbfiibgmgopnaaaDoor

namespace Go.Proofs.YtbfiibgmgopnaaaDoor
open Go.GV
set_option linter.unusedVariables false
set_option linter.unusedSimpArgs false
theorem c39f0_ {p : Prop} (h : p := by first | (rw [hk]; decide) | exact hn0 | exact hn1 | exact hn2 | exact hn3 | exact hn4 | exact hn5 | exact hn6) : p := h
theorem c39f1_ {p : Prop} (h : p := by first | exact .inl hk | exact .inr (.inl hk) | exact .inr (.inr hk)) : p := h
theorem c39f2_ {p : Prop} (h : p := by first | exact .inl hk | exact .inr (.inl hk) | exact .inr (.inr (.inl hk)) | exact .inr (.inr (.inr hk))) : p := h
theorem c39f3_ {p : Prop} (h : p := by first | exact (List.append_nil o).symm | exact no_such_condition.new) : p := h
set_option maxHeartbeats 2000000 in
set_option maxRecDepth 20000 in
theorem line_in (r : Nat) (kb : Nat) (mB : Nat) (M : List (Bytes × Bytes)) (pr : Value) (o : List Statement) (oA : Option Addr) (oC : Nat) (oN : Nat) (rows : List Row) (rowsA : Option Addr) (rowsC : Nat) (cl : Bytes) (w : World) (rowsR : RO (Lown [Ent.blk r 77 [Value.map (some mB), pr, vL oA oN oC], Ent.mp vS mB (M.map kvS), Ent.mp vS kb [([115, 101, 116], Value.func (.func 86) #[] #[]), ([112, 114, 111, 99], Value.func (.func 87) #[] #[]), ([101, 110, 100], Value.func (.func 88) #[] #[]), ([99, 97, 108, 108], Value.func (.func 89) #[] #[]), ([106, 111, 98], Value.func (.func 90) #[] #[]), ([115, 116, 101, 112], Value.func (.func 90) #[] #[]), ([100, 100], Value.func (.func 90) #[] #[])], Ent.row (.slice oA oN oC) 40 4 oN (o.flatMap Statement.enc)]) w rowsA (rows.flatMap Row.enc)) (hT : Tab (Lown [Ent.blk r 77 [Value.map (some mB), pr, vL oA oN oC], Ent.mp vS mB (M.map kvS), Ent.mp vS kb [([115, 101, 116], Value.func (.func 86) #[] #[]), ([112, 114, 111, 99], Value.func (.func 87) #[] #[]), ([101, 110, 100], Value.func (.func 88) #[] #[]), ([99, 97, 108, 108], Value.func (.func 89) #[] #[]), ([106, 111, 98], Value.func (.func 90) #[] #[]), ([115, 116, 101, 112], Value.func (.func 90) #[] #[]), ([100, 100], Value.func (.func 90) #[] #[])], Ent.row (.slice oA oN oC) 40 4 oN (o.flatMap Statement.enc)]) w) (oQ : oN = o.length) (q0 : 0 < rows.length) (q1 : rows.length ≤ rowsC) (q2 : rows.length ≤ 100000) (q3 : ∀ i, (rows.getD i default).text.length ≤ 20000) (q4 : R39.ShortV M) (q5 : o.length ≤ 400) (hg : Give (Lown [Ent.blk r 77 [Value.map (some mB), pr, vL oA oN oC], Ent.mp vS mB (M.map kvS), Ent.mp vS kb [([115, 101, 116], Value.func (.func 86) #[] #[]), ([112, 114, 111, 99], Value.func (.func 87) #[] #[]), ([101, 110, 100], Value.func (.func 88) #[] #[]), ([99, 97, 108, 108], Value.func (.func 89) #[] #[]), ([106, 111, 98], Value.func (.func 90) #[] #[]), ([115, 116, 101, 112], Value.func (.func 90) #[] #[]), ([100, 100], Value.func (.func 90) #[] #[])], Ent.row (.slice oA oN oC) 40 4 oN (o.flatMap Statement.enc)]) w [Ent.blk r 77 [Value.map (some mB), pr, vL oA oN oC], Ent.mp vS mB (M.map kvS), Ent.mp vS kb [([115, 101, 116], Value.func (.func 86) #[] #[]), ([112, 114, 111, 99], Value.func (.func 87) #[] #[]), ([101, 110, 100], Value.func (.func 88) #[] #[]), ([99, 97, 108, 108], Value.func (.func 89) #[] #[]), ([106, 111, 98], Value.func (.func 90) #[] #[]), ([115, 116, 101, 112], Value.func (.func 90) #[] #[]), ([100, 100], Value.func (.func 90) #[] #[])], Ent.row (.slice oA oN oC) 40 4 oN (o.flatMap Statement.enc)]) : Calls Tryd.prog 63 #[pB r 0, Value.map (some kb), vG [vL rowsA rows.length rowsC, vS cl, vB true]] w (GivesW (Lown [Ent.blk r 77 [Value.map (some mB), pr, vL oA oN oC], Ent.mp vS mB (M.map kvS), Ent.mp vS kb [([115, 101, 116], Value.func (.func 86) #[] #[]), ([112, 114, 111, 99], Value.func (.func 87) #[] #[]), ([101, 110, 100], Value.func (.func 88) #[] #[]), ([99, 97, 108, 108], Value.func (.func 89) #[] #[]), ([106, 111, 98], Value.func (.func 90) #[] #[]), ([115, 116, 101, 112], Value.func (.func 90) #[] #[]), ([100, 100], Value.func (.func 90) #[] #[])], Ent.row (.slice oA oN oC) 40 4 oN (o.flatMap Statement.enc)]) w fun v L wx => ∃ n : Int, ∃ fl : Int, ∃ fc : Int, ∃ y : List Statement, ∃ yA : Option Addr, ∃ yC : Nat, ∃ N : List Statement, v = Value.tuple #[vI n, vG [vI fl, vI fc]] ∧ L = [Ent.blk r 77 [Value.map (some mB), pr, vL yA y.length yC], Ent.mp vS mB (M.map kvS), Ent.mp vS kb [([115, 101, 116], Value.func (.func 86) #[] #[]), ([112, 114, 111, 99], Value.func (.func 87) #[] #[]), ([101, 110, 100], Value.func (.func 88) #[] #[]), ([99, 97, 108, 108], Value.func (.func 89) #[] #[]), ([106, 111, 98], Value.func (.func 90) #[] #[]), ([115, 116, 101, 112], Value.func (.func 90) #[] #[]), ([100, 100], Value.func (.func 90) #[] #[])], Ent.row (.slice yA y.length yC) 40 4 y.length (y.flatMap Statement.enc)] ∧ Kp (Lown L ++ List.range w.heap.size) wx (okL Statement.ok N) ∧ (y = o ++ N) ∧ (y.length ≤ 400) ∧ (∀ P, R39.LnJ (R39.lineIn cl (rows.getD 0 default) (rows.drop 1) ⟨lookK M, P, o.map R39.pur⟩) n fl fc ⟨lookK M, P, (o ++ N).map R39.pur⟩)) := by
 subst oQ
 have htx := q3 0
 refine calls_JW (Lown [Ent.blk r 77 [Value.map (some mB), pr, vL oA o.length oC], Ent.mp vS mB (M.map kvS), Ent.mp vS kb [([115, 101, 116], Value.func (.func 86) #[] #[]), ([112, 114, 111, 99], Value.func (.func 87) #[] #[]), ([101, 110, 100], Value.func (.func 88) #[] #[]), ([99, 97, 108, 108], Value.func (.func 89) #[] #[]), ([106, 111, 98], Value.func (.func 90) #[] #[]), ([115, 116, 101, 112], Value.func (.func 90) #[] #[]), ([100, 100], Value.func (.func 90) #[] #[])], Ent.row (.slice oA o.length oC) 40 4 o.length (o.flatMap Statement.enc)]) 78 Tryd.func63 rfl Tryd.ntmps63 [(0, _), (1, _), (2, _)] rfl rfl hg ?_
 refine q_ (g_ (o_ (bxG fun b1 => ?_)))
 refine s_ av_ (o_ (al_ Ty.ze79 fun b2 => ?_))
 refine z_ (n_ (q_ (g_ (s_ (fA 0 Ty.fi82_0) (r_ (ld_ 1 Ty.sc68) (r_ (ixF (k := 0) Row.enc_len (cells_ro rowsR) Tryd.underlying68 Ty.sz73) (s_ (x_fieldAddr Ty.fi73_1 rfl (adr_add _ _ _)) (r_ (ldF (k := 0) 1 Row.enc_len (cells_ro rowsR) Ty.sc9) (c0 (cl_ Ty.ca23) (fun w hS => trim_ok _ w) ?_)))))))))
 have ha3 := R39.trim_le ((rows.getD 0 default).text)
 refine s_ av_ (z_ (n_ (q_ (q_ (g_ (s_ mv_ (js_ (vB (decide (R39.trim ((rows.getD 0 default).text) = ([] : Bytes)))) (x_eql_s rfl rfl) (s_ mv_ ?_))))))))
 refine or_ 3 (decide ((R39.trim ((rows.getD 0 default).text)).getD 0 0 = (35 : UInt8))) (fun g4 => ?_) ?_
 ·have g4r := g4
  have g4r := of_decide_eq_false g4r
  have g4rl := List.length_pos_iff.2 g4r
  refine sg_ g4 mv_ (sg_ g4 (x_idx_s (k := 0) rfl rfl Tryd.underlying9 (by omega)) (jg_ g4 (vB (decide ((R39.trim ((rows.getD 0 default).text)).getD 0 0 = (35 : UInt8)))) (x_eql_u8 rfl rfl) ?_))
  exact cr_
 refine z_ (n_ ?_)
 refine if_ (fun h5 => ?_) (fun h5 => ?_)
 ·have h5w := h5
  simp only [Bool.and_eq_true, Bool.or_eq_true, Bool.and_eq_false_iff, Bool.or_eq_false_iff, Bool.not_eq_true', Bool.not_eq_false', decide_eq_true_eq, decide_eq_false_iff_not] at h5
  refine q_ (g_ (js_ (vG [vI 0, vI 0]) (x_build (by kernel_rfl)) (s_ av_ (o_ (stG 0 Ty.sz79 ?_)))))
  refine z_ (n_ (rt_ (nr_ ?_)))
  refine JX_retsD [_, _] (Value.tuple #[_, _]) Tryd.results63 (fun w h => ⟨rfl, ⟨_, rfl, load_blkN 0 [vI 0, vI 0] h rfl Ty.ag79 Ty.sz79 rfl⟩, trivial⟩) rfl _ (fun _ h => h.keep [false, false, true, true, true, true] rfl) (fun _ _ h => h) (fun wx hw => ⟨0, 0, 0, o, oA, oC, ([] : List Statement), ?_, ?_, R39.okN_nil, ?_, ?_, ?_⟩)
  ·rfl
  ·rfl
  ·exact c39f3_
  ·first | assumption | omega
  ·intro P
   first
    | (rw [R39.in_stm (R39.LnK.of (by assumption) (by assumption) (by assumption) no_such_condition) (R39.len1 (by assumption)) c39f1_]; exact no_such_condition.line rfl)
    | (rw [List.append_nil]; first | exact .zero (R39.in_idle (by assumption)) | exact .err (R39.in_repl (by assumption) (by assumption)) (by assumption) | exact .err (R39.in_scan (by assumption) (by assumption) (by assumption)) (by assumption) | exact .zero (R39.in_none (R39.LnK.of (by assumption) (by assumption) (by assumption) no_such_condition) (R39.len0 (by assumption))) | exact .err (R39.in_nine (R39.LnK.of (by assumption) (by assumption) (by assumption) no_such_condition) (R39.len1 (by assumption)) c39f2_) (by decide) | exact .err (R39.in_three (R39.LnK.of (by assumption) (by assumption) (by assumption) no_such_condition) (R39.len1 (by assumption)) hk) (by decide))
 ·have h5w := h5
  have ⟨h5, h6⟩ := bor_false h5
  have h5 := of_decide_eq_false h5
  have h5l := List.length_pos_iff.2 h5
  have h6 := of_decide_eq_false h6
  refine sk_ (n_ (q_ ?_))
  refine drB [] 15 Ty.mixed ?_
  refine jp_ 0 rfl (fA 0 Ty.fi82_0) (jq_ 1 rfl (ld_ 1 Ty.sc68) (jq_ 2 rfl (ixF (k := 0) Row.enc_len (cells_ro rowsR) Tryd.underlying68 Ty.sz73) (jp_ 3 rfl (x_fieldAddr Ty.fi73_1 rfl (adr_add _ _ _)) (jq_ 4 rfl (ldF (k := 0) 1 Row.enc_len (cells_ro rowsR) Ty.sc9) (jp_ 5 rfl mv_ (jp_ 6 rfl (x_nilCheck rfl) (jp_ 7 rfl (fA 0 Ty.fi77_0) (jq_ 8 rfl (ld_ 2 Ty.sc22) (j1_ 9 ?_ gm_)))))))))
  refine jc0_ rfl (cl_ Ty.ca12) (fun w hS => f12_ok _ M mB w (Kp.of_ent hS 3 rfl) (hT.on hS (fun _ h => by cases h)) hy_ hy_) ?_
  have ha7 := R39.exV_len (m := lookK M) (s := ((rows.getD 0 default).text))
  refine jp_ 10 rfl mv_ (jp_ 11 rfl (ex_ 0) (jp_ 12 rfl (ex_ 1) (jp_ 13 rfl av_ (jp_ 14 rfl av_ ?_))))
  refine JA_done (by kernel_rfl) gm_ ?_
  refine n_ (q_ (q_ (g_ (s_ mv_ (s_ (x_neq_i rfl rfl) (z_ (xk_ [0, 1, 5, 6, 7, 8, 9, 41] ?_)))))))
  refine n_ ?_
  refine ifd (fun h8w h8 => ?_) (fun h8w h8 => ?_)
  ·refine q_ (g_ (r_ (ldN 1 [vL rowsA rows.length rowsC, vS cl, vB true] Ty.ag82 Ty.sz82) (s_ mv_ (c0 (cl_ Ty.ca91) (fun w hS => f91_ok rows _ _ cl true _ w (rno rowsR hS) hy_) (s_ av_ (o_ (stG 0 Ty.sz79 ?_)))))))
   refine z_ (n_ (rt_ (nr_ ?_)))
   refine JX_retsD [_, _] (Value.tuple #[_, _]) Tryd.results63 (fun w h => ⟨rfl, ⟨_, rfl, load_blkN 0 [vI ((rows.getD 0 default).number), vI (R39.exE (R39.replV (lookK M) ((rows.getD 0 default).text)))] h rfl Ty.ag79 Ty.sz79 rfl⟩, trivial⟩) rfl _ (fun _ h => h.keep [false, false, true, true, true, true] rfl) (fun _ _ h => h) (fun wx hw => ⟨0, (rows.getD 0 default).number, (R39.exE (R39.replV (lookK M) ((rows.getD 0 default).text))), o, oA, oC, ([] : List Statement), ?_, ?_, R39.okN_nil, ?_, ?_, ?_⟩)
   ·rfl
   ·rfl
   ·exact c39f3_
   ·first | assumption | omega
   ·intro P
    first
     | (rw [R39.in_stm (R39.LnK.of (by assumption) (by assumption) (by assumption) no_such_condition) (R39.len1 (by assumption)) c39f1_]; exact no_such_condition.line rfl)
     | (rw [List.append_nil]; first | exact .zero (R39.in_idle (by assumption)) | exact .err (R39.in_repl (by assumption) (by assumption)) (by assumption) | exact .err (R39.in_scan (by assumption) (by assumption) (by assumption)) (by assumption) | exact .zero (R39.in_none (R39.LnK.of (by assumption) (by assumption) (by assumption) no_such_condition) (R39.len0 (by assumption))) | exact .err (R39.in_nine (R39.LnK.of (by assumption) (by assumption) (by assumption) no_such_condition) (R39.len1 (by assumption)) c39f2_) (by decide) | exact .err (R39.in_three (R39.LnK.of (by assumption) (by assumption) (by assumption) no_such_condition) (R39.len1 (by assumption)) hk) (by decide))
  ·refine sk_ (n_ (q_ (g_ (s_ mv_ ?_))))
   refine JO_callB [] [] [Ent.blk b2 79 [vI 0, vI 0], Ent.blk b1 82 [vL rowsA rows.length rowsC, vS cl, vB true], Ent.blk r 77 [Value.map (some mB), pr, vL oA o.length oC], Ent.mp vS mB (M.map kvS), Ent.mp vS kb [([115, 101, 116], Value.func (.func 86) #[] #[]), ([112, 114, 111, 99], Value.func (.func 87) #[] #[]), ([101, 110, 100], Value.func (.func 88) #[] #[]), ([99, 97, 108, 108], Value.func (.func 89) #[] #[]), ([106, 111, 98], Value.func (.func 90) #[] #[]), ([115, 116, 101, 112], Value.func (.func 90) #[] #[]), ([100, 100], Value.func (.func 90) #[] #[])], Ent.row (.slice oA o.length oC) 40 4 o.length (o.flatMap Statement.enc)] rfl trivial (fun _ => x_call Ty.ca10 rfl) (fun _ h => h) (fun _ h => by cases h) (fun w hS => f10k_ok (R39.exV (R39.replV (lookK M) ((rows.getD 0 default).text))) w hy_) ?_
   rintro wc _ _ wbhB12 ⟨ro, roA, roC, rfl, rfl, roR, roL, hf9, hf10, hf11⟩ hc0 hB12
   have rowsR := rowsR.again hB12
   have hT := hT.again hB12
   have roR0 := roR.mono (lown_rangeF (w00 := w) hc0 hc0.fr.size)
   have roR := roR.mono (lown_range hc0)
   try simp only [List.length_cons, List.length_nil, Nat.zero_add, Nat.reduceAdd] at hf11
   refine s_ mv_ (s_ (ex_ 0) (s_ (ex_ 1) (s_ av_ (s_ av_ (z_ (n_ (q_ (q_ (g_ (s_ mv_ (s_ (x_neq_i rfl rfl) (z_ (n_ ?_)))))))))))))
   refine ifd (fun h13w h13 => ?_) (fun h13w h13 => ?_)
   ·refine q_ (g_ (r_ (ldN 1 [vL rowsA rows.length rowsC, vS cl, vB true] Ty.ag82 Ty.sz82) (s_ mv_ (c0 (cl_ Ty.ca91) (fun w hS => f91_ok rows _ _ cl true _ w (rno rowsR hS) hy_) (s_ av_ (o_ (stG 0 Ty.sz79 ?_)))))))
    refine z_ (n_ (rt_ (nr_ ?_)))
    refine JX_retsD [_, _] (Value.tuple #[_, _]) Tryd.results63 (fun w h => ⟨rfl, ⟨_, rfl, load_blkN 0 [vI ((rows.getD 0 default).number), vI (R39.scanE (R39.exV (R39.replV (lookK M) ((rows.getD 0 default).text))))] h rfl Ty.ag79 Ty.sz79 rfl⟩, trivial⟩) rfl _ (fun _ h => h.keep [false, false, true, true, true, true] rfl) (fun _ _ h => (hB12.back _ _ h)) (fun wx hw => ⟨0, (rows.getD 0 default).number, (R39.scanE (R39.exV (R39.replV (lookK M) ((rows.getD 0 default).text)))), o, oA, oC, ([] : List Statement), ?_, ?_, R39.okN_nil, ?_, ?_, ?_⟩)
    ·rfl
    ·rfl
    ·exact c39f3_
    ·first | assumption | omega
    ·intro P
     first
      | (rw [R39.in_stm (R39.LnK.of (by assumption) (by assumption) (by assumption) hf9) (R39.len1 (by assumption)) c39f1_]; exact no_such_condition.line rfl)
      | (rw [List.append_nil]; first | exact .zero (R39.in_idle (by assumption)) | exact .err (R39.in_repl (by assumption) (by assumption)) (by assumption) | exact .err (R39.in_scan (by assumption) (by assumption) (by assumption)) (by assumption) | exact .zero (R39.in_none (R39.LnK.of (by assumption) (by assumption) (by assumption) hf9) (R39.len0 (by assumption))) | exact .err (R39.in_nine (R39.LnK.of (by assumption) (by assumption) (by assumption) hf9) (R39.len1 (by assumption)) c39f2_) (by decide) | exact .err (R39.in_three (R39.LnK.of (by assumption) (by assumption) (by assumption) hf9) (R39.len1 (by assumption)) hk) (by decide))
   ·refine sk_ (n_ (q_ (q_ (g_ (s_ mv_ (s_ (lnS Tryd.underlying24) (s_ (x_eql_i rfl rfl) (z_ (n_ ?_)))))))))
    refine ifd (fun h14w h14 => ?_) (fun h14w h14 => ?_)
    ·refine q_ (g_ (js_ (vG [vI 0, vI 0]) (x_build (by kernel_rfl)) (s_ av_ (o_ (stG 0 Ty.sz79 ?_)))))
     refine z_ (n_ (rt_ (nr_ ?_)))
     refine JX_retsD [_, _] (Value.tuple #[_, _]) Tryd.results63 (fun w h => ⟨rfl, ⟨_, rfl, load_blkN 0 [vI 0, vI 0] h rfl Ty.ag79 Ty.sz79 rfl⟩, trivial⟩) rfl _ (fun _ h => h.keep [false, false, true, true, true, true] rfl) (fun _ _ h => (hB12.back _ _ h)) (fun wx hw => ⟨0, 0, 0, o, oA, oC, ([] : List Statement), ?_, ?_, R39.okN_nil, ?_, ?_, ?_⟩)
     ·rfl
     ·rfl
     ·exact c39f3_
     ·first | assumption | omega
     ·intro P
      first
       | (rw [R39.in_stm (R39.LnK.of (by assumption) (by assumption) (by assumption) hf9) (R39.len1 (by assumption)) c39f1_]; exact no_such_condition.line rfl)
       | (rw [List.append_nil]; first | exact .zero (R39.in_idle (by assumption)) | exact .err (R39.in_repl (by assumption) (by assumption)) (by assumption) | exact .err (R39.in_scan (by assumption) (by assumption) (by assumption)) (by assumption) | exact .zero (R39.in_none (R39.LnK.of (by assumption) (by assumption) (by assumption) hf9) (R39.len0 (by assumption))) | exact .err (R39.in_nine (R39.LnK.of (by assumption) (by assumption) (by assumption) hf9) (R39.len1 (by assumption)) c39f2_) (by decide) | exact .err (R39.in_three (R39.LnK.of (by assumption) (by assumption) (by assumption) hf9) (R39.len1 (by assumption)) hk) (by decide))
    ·refine sk_ (n_ (q_ (g_ (s_ mv_ (s_ mv_ (r_ (ixM (k := 0) (cells_ro roR) Tryd.underlying24 Ty.sz9) (r_ (ldM vS [] (cells_ro roR) Ty.sc9) ?_)))))))
     rcases R39.key_cases (ro.getD 0 []) with hk | hk | hk | hk | hk | hk | hk | hk
     ·refine JO_read (Value.tuple #[Value.func (.func 86) #[] #[], vB true]) rfl trivial (x_lookup_ok 4 (f := vS) (k := (ro.getD 0 [])) rfl rfl rfl Tryd.underlying100 (mapK_s Tryd.underlying9) Ty.ze124 (lk_hit (by exact hk))) ?_
      refine s_ mv_ (s_ (ex_ 0) (s_ (ex_ 1) (s_ av_ (s_ av_ (z_ (xk_ [0, 5, 6, 7, 10, 11, 12] ?_))))))
      refine n_ (q_ (q_ (g_ (s_ mv_ (jr_ (vB false) (z_ (n_ (iff_ (sk_ (n_ (q_ (g_ (s_ mv_ (s_ mv_ (r_ (ldN 1 [vL rowsA rows.length rowsC, vS cl, vB true] Ty.ag82 Ty.sz82) (s_ mv_ (c0 (x_callv (first := []) (caps := []) rfl Ty.ca86 rfl) (fun w hS => set_in _ rows _ _ cl ro roA roC w (rno rowsR hS) (rno roR hS) hy_) ?_)))))))))))))))))
      refine s_ (ex_ 0) (s_ (ex_ 1) (s_ av_ (o_ (stG 0 Ty.sz79 ?_))))
      refine z_ (n_ (rt_ ?_))
      refine JX_retsD [_, _] (Value.tuple #[_, _]) Tryd.results63 (fun w h => ⟨rfl, ⟨_, rfl, load_blkN 0 [vI ((rows.getD 0 default).number), vI 9] h rfl Ty.ag79 Ty.sz79 rfl⟩, trivial⟩) rfl _ (fun _ h => h.keep [false, false, true, true, true, true] rfl) (fun _ _ h => (hB12.back _ _ h)) (fun wx hw => ⟨0, (rows.getD 0 default).number, 9, o, oA, oC, ([] : List Statement), ?_, ?_, R39.okN_nil, ?_, ?_, ?_⟩)
      ·rfl
      ·rfl
      ·exact c39f3_
      ·first | assumption | omega
      ·intro P
       first
        | (rw [R39.in_stm (R39.LnK.of (by assumption) (by assumption) (by assumption) hf9) (R39.len1 (by assumption)) c39f1_]; exact no_such_condition.line rfl)
        | (rw [List.append_nil]; first | exact .zero (R39.in_idle (by assumption)) | exact .err (R39.in_repl (by assumption) (by assumption)) (by assumption) | exact .err (R39.in_scan (by assumption) (by assumption) (by assumption)) (by assumption) | exact .zero (R39.in_none (R39.LnK.of (by assumption) (by assumption) (by assumption) hf9) (R39.len0 (by assumption))) | exact .err (R39.in_nine (R39.LnK.of (by assumption) (by assumption) (by assumption) hf9) (R39.len1 (by assumption)) c39f2_) (by decide) | exact .err (R39.in_three (R39.LnK.of (by assumption) (by assumption) (by assumption) hf9) (R39.len1 (by assumption)) hk) (by decide))
     ·refine JO_read (Value.tuple #[Value.func (.func 87) #[] #[], vB true]) rfl trivial (x_lookup_ok 4 (f := vS) (k := (ro.getD 0 [])) rfl rfl rfl Tryd.underlying100 (mapK_s Tryd.underlying9) Ty.ze124 (lk_ne c39f0_ (lk_hit (by exact hk)))) ?_
      refine s_ mv_ (s_ (ex_ 0) (s_ (ex_ 1) (s_ av_ (s_ av_ (z_ (xk_ [0, 5, 6, 7, 10, 11, 12] ?_))))))
      refine n_ (q_ (q_ (g_ (s_ mv_ (jr_ (vB false) (z_ (n_ (iff_ (sk_ (n_ (q_ (g_ (s_ mv_ (s_ mv_ (r_ (ldN 1 [vL rowsA rows.length rowsC, vS cl, vB true] Ty.ag82 Ty.sz82) (s_ mv_ (c0 (x_callv (first := []) (caps := []) rfl Ty.ca87 rfl) (fun w hS => proc_in _ rows _ _ cl ro roA roC w (rno rowsR hS) (rno roR hS) hy_) ?_)))))))))))))))))
      refine s_ (ex_ 0) (s_ (ex_ 1) (s_ av_ (o_ (stG 0 Ty.sz79 ?_))))
      refine z_ (n_ (rt_ ?_))
      refine JX_retsD [_, _] (Value.tuple #[_, _]) Tryd.results63 (fun w h => ⟨rfl, ⟨_, rfl, load_blkN 0 [vI ((rows.getD 0 default).number), vI 9] h rfl Ty.ag79 Ty.sz79 rfl⟩, trivial⟩) rfl _ (fun _ h => h.keep [false, false, true, true, true, true] rfl) (fun _ _ h => (hB12.back _ _ h)) (fun wx hw => ⟨0, (rows.getD 0 default).number, 9, o, oA, oC, ([] : List Statement), ?_, ?_, R39.okN_nil, ?_, ?_, ?_⟩)
      ·rfl
      ·rfl
      ·exact c39f3_
      ·first | assumption | omega
      ·intro P
       first
        | (rw [R39.in_stm (R39.LnK.of (by assumption) (by assumption) (by assumption) hf9) (R39.len1 (by assumption)) c39f1_]; exact no_such_condition.line rfl)
        | (rw [List.append_nil]; first | exact .zero (R39.in_idle (by assumption)) | exact .err (R39.in_repl (by assumption) (by assumption)) (by assumption) | exact .err (R39.in_scan (by assumption) (by assumption) (by assumption)) (by assumption) | exact .zero (R39.in_none (R39.LnK.of (by assumption) (by assumption) (by assumption) hf9) (R39.len0 (by assumption))) | exact .err (R39.in_nine (R39.LnK.of (by assumption) (by assumption) (by assumption) hf9) (R39.len1 (by assumption)) c39f2_) (by decide) | exact .err (R39.in_three (R39.LnK.of (by assumption) (by assumption) (by assumption) hf9) (R39.len1 (by assumption)) hk) (by decide))
     ·refine JO_read (Value.tuple #[Value.func (.func 88) #[] #[], vB true]) rfl trivial (x_lookup_ok 4 (f := vS) (k := (ro.getD 0 [])) rfl rfl rfl Tryd.underlying100 (mapK_s Tryd.underlying9) Ty.ze124 (lk_ne c39f0_ (lk_ne c39f0_ (lk_hit (by exact hk))))) ?_
      refine s_ mv_ (s_ (ex_ 0) (s_ (ex_ 1) (s_ av_ (s_ av_ (z_ (xk_ [0, 5, 6, 7, 10, 11, 12] ?_))))))
      refine n_ (q_ (q_ (g_ (s_ mv_ (jr_ (vB false) (z_ (n_ (iff_ (sk_ (n_ (q_ (g_ (s_ mv_ (s_ mv_ (r_ (ldN 1 [vL rowsA rows.length rowsC, vS cl, vB true] Ty.ag82 Ty.sz82) (s_ mv_ (c0 (x_callv (first := []) (caps := []) rfl Ty.ca88 rfl) (fun w hS => f88_ok _ rows _ _ cl true ro roA roC w (rno rowsR hS) (rno roR hS) hy_) ?_)))))))))))))))))
      refine s_ (ex_ 0) (s_ (ex_ 1) (s_ av_ (o_ (stG 0 Ty.sz79 ?_))))
      refine z_ (n_ (rt_ ?_))
      refine JX_retsD [_, _] (Value.tuple #[_, _]) Tryd.results63 (fun w h => ⟨rfl, ⟨_, rfl, load_blkN 0 [vI ((rows.getD 0 default).number), vI 9] h rfl Ty.ag79 Ty.sz79 rfl⟩, trivial⟩) rfl _ (fun _ h => h.keep [false, false, true, true, true, true] rfl) (fun _ _ h => (hB12.back _ _ h)) (fun wx hw => ⟨0, (rows.getD 0 default).number, 9, o, oA, oC, ([] : List Statement), ?_, ?_, R39.okN_nil, ?_, ?_, ?_⟩)
      ·rfl
      ·rfl
      ·exact c39f3_
      ·first | assumption | omega
      ·intro P
       first
        | (rw [R39.in_stm (R39.LnK.of (by assumption) (by assumption) (by assumption) hf9) (R39.len1 (by assumption)) c39f1_]; exact no_such_condition.line rfl)
        | (rw [List.append_nil]; first | exact .zero (R39.in_idle (by assumption)) | exact .err (R39.in_repl (by assumption) (by assumption)) (by assumption) | exact .err (R39.in_scan (by assumption) (by assumption) (by assumption)) (by assumption) | exact .zero (R39.in_none (R39.LnK.of (by assumption) (by assumption) (by assumption) hf9) (R39.len0 (by assumption))) | exact .err (R39.in_nine (R39.LnK.of (by assumption) (by assumption) (by assumption) hf9) (R39.len1 (by assumption)) c39f2_) (by decide) | exact .err (R39.in_three (R39.LnK.of (by assumption) (by assumption) (by assumption) hf9) (R39.len1 (by assumption)) hk) (by decide))
     ·refine JO_read (Value.tuple #[Value.func (.func 89) #[] #[], vB true]) rfl trivial (x_lookup_ok 4 (f := vS) (k := (ro.getD 0 [])) rfl rfl rfl Tryd.underlying100 (mapK_s Tryd.underlying9) Ty.ze124 (lk_ne c39f0_ (lk_ne c39f0_ (lk_ne c39f0_ (lk_hit (by exact hk)))))) ?_
      refine s_ mv_ (s_ (ex_ 0) (s_ (ex_ 1) (s_ av_ (s_ av_ (z_ (xk_ [0, 5, 6, 7, 10, 11, 12] ?_))))))
      refine n_ (q_ (q_ (g_ (s_ mv_ (jr_ (vB false) (z_ (n_ (iff_ (sk_ (n_ (q_ (g_ (s_ mv_ (s_ mv_ (r_ (ldN 1 [vL rowsA rows.length rowsC, vS cl, vB true] Ty.ag82 Ty.sz82) (s_ mv_ (c0 (x_callv (first := []) (caps := []) rfl Ty.ca89 rfl) (fun w hS => call_in _ rows _ _ cl ro roA roC w (rno rowsR hS) (rno roR hS) hy_) ?_)))))))))))))))))
      refine s_ (ex_ 0) (s_ (ex_ 1) (s_ av_ (o_ (stG 0 Ty.sz79 ?_))))
      refine z_ (n_ (rt_ ?_))
      refine JX_retsD [_, _] (Value.tuple #[_, _]) Tryd.results63 (fun w h => ⟨rfl, ⟨_, rfl, load_blkN 0 [vI ((rows.getD 0 default).number), vI 9] h rfl Ty.ag79 Ty.sz79 rfl⟩, trivial⟩) rfl _ (fun _ h => h.keep [false, false, true, true, true, true] rfl) (fun _ _ h => (hB12.back _ _ h)) (fun wx hw => ⟨0, (rows.getD 0 default).number, 9, o, oA, oC, ([] : List Statement), ?_, ?_, R39.okN_nil, ?_, ?_, ?_⟩)
      ·rfl
      ·rfl
      ·exact c39f3_
      ·first | assumption | omega
      ·intro P
       first
        | (rw [R39.in_stm (R39.LnK.of (by assumption) (by assumption) (by assumption) hf9) (R39.len1 (by assumption)) c39f1_]; exact no_such_condition.line rfl)
        | (rw [List.append_nil]; first | exact .zero (R39.in_idle (by assumption)) | exact .err (R39.in_repl (by assumption) (by assumption)) (by assumption) | exact .err (R39.in_scan (by assumption) (by assumption) (by assumption)) (by assumption) | exact .zero (R39.in_none (R39.LnK.of (by assumption) (by assumption) (by assumption) hf9) (R39.len0 (by assumption))) | exact .err (R39.in_nine (R39.LnK.of (by assumption) (by assumption) (by assumption) hf9) (R39.len1 (by assumption)) c39f2_) (by decide) | exact .err (R39.in_three (R39.LnK.of (by assumption) (by assumption) (by assumption) hf9) (R39.len1 (by assumption)) hk) (by decide))
     ·refine JO_read (Value.tuple #[Value.func (.func 90) #[] #[], vB true]) rfl trivial (x_lookup_ok 4 (f := vS) (k := (ro.getD 0 [])) rfl rfl rfl Tryd.underlying100 (mapK_s Tryd.underlying9) Ty.ze124 (lk_ne c39f0_ (lk_ne c39f0_ (lk_ne c39f0_ (lk_ne c39f0_ (lk_hit (by exact hk))))))) ?_
      refine s_ mv_ (s_ (ex_ 0) (s_ (ex_ 1) (s_ av_ (s_ av_ (z_ (xk_ [0, 5, 6, 7, 10, 11, 12] ?_))))))
      refine n_ (q_ (q_ (g_ (s_ mv_ (jr_ (vB false) (z_ (n_ (iff_ (sk_ (n_ (q_ (g_ (s_ mv_ (s_ mv_ (r_ (ldN 1 [vL rowsA rows.length rowsC, vS cl, vB true] Ty.ag82 Ty.sz82) (s_ mv_ ?_))))))))))))))))
      refine JO_callB (Lown [Ent.blk r 77 [Value.map (some mB), pr, vL oA o.length oC], Ent.row (.slice oA o.length oC) 40 4 o.length (o.flatMap Statement.enc)]) [Ent.blk r 77 [Value.map (some mB), pr, vL oA o.length oC], Ent.row (.slice oA o.length oC) 40 4 o.length (o.flatMap Statement.enc)] [Ent.blk b2 79 [vI 0, vI 0], Ent.blk b1 82 [vL rowsA rows.length rowsC, vS cl, vB true], Ent.mp vS mB (M.map kvS), Ent.mp vS kb [([115, 101, 116], Value.func (.func 86) #[] #[]), ([112, 114, 111, 99], Value.func (.func 87) #[] #[]), ([101, 110, 100], Value.func (.func 88) #[] #[]), ([99, 97, 108, 108], Value.func (.func 89) #[] #[]), ([106, 111, 98], Value.func (.func 90) #[] #[]), ([115, 116, 101, 112], Value.func (.func 90) #[] #[]), ([100, 100], Value.func (.func 90) #[] #[])]] rfl trivial (fun _ => x_callv (first := []) (caps := []) rfl Ty.ca90 rfl) (fun _ h => ((((((h.front 4 _ rfl).front 4 _ rfl).front 3 _ rfl).front 3 _ rfl).front 5 _ rfl).front 5 _ rfl).keep [true, true, true, true, true, true] rfl) lown_mem (fun w hS => f90_ok r (Value.map (some mB)) pr o oA oC o.length rows rowsA rowsC cl true ro roA roC w (rowsR.on hS lown_mem) (roR.on hS lown_mem) hy_ hy_ hy_ hy_ hy_ hy_ hy_ (hS.give lown_in)) ?_
      rintro wc _ _ wbhB24 ⟨n15, fl16, fc17, y18, yA19, yC20, rl, rlA, rlC, rfl, rfl, rlR, rlL, hf21, hf22, hf23⟩ hc0 hB24
      have rowsR := rowsR.again hB24
      have roR0 := roR0.againF hB24
      have roR := roR.again hB24
      have hT := hT.again hB24
      have rlR0 := rlR.mono (lown_rangeAF (w00 := w) hc0 (hB12.back _ _ hc0).fr.size)
      have rlR := rlR.mono (lown_rangeA hc0)
      refine s_ (ex_ 0) (s_ (ex_ 1) (s_ av_ (o_ (stG 2 Ty.sz79 ?_))))
      refine z_ (n_ (rt_ ?_))
      refine JX_retsD [_, _] (Value.tuple #[_, _]) Tryd.results63 (fun w h => ⟨rfl, ⟨_, rfl, load_blkN 2 [vI fl16, vI fc17] h rfl Ty.ag79 Ty.sz79 rfl⟩, trivial⟩) rfl [Ent.blk r 77 [Value.map (some mB), pr, vL yA19 y18.length yC20], Ent.mp vS mB (M.map kvS), Ent.mp vS kb [([115, 101, 116], Value.func (.func 86) #[] #[]), ([112, 114, 111, 99], Value.func (.func 87) #[] #[]), ([101, 110, 100], Value.func (.func 88) #[] #[]), ([99, 97, 108, 108], Value.func (.func 89) #[] #[]), ([106, 111, 98], Value.func (.func 90) #[] #[]), ([115, 116, 101, 112], Value.func (.func 90) #[] #[]), ([100, 100], Value.func (.func 90) #[] #[])], Ent.row (.slice yA19 y18.length yC20) 40 4 y18.length (y18.flatMap Statement.enc)] (fun _ h => ((((h.front 1 _ rfl).front 5 _ rfl).front 5 _ rfl).front 3 _ rfl).keep [true, true, true, true, false, false] rfl) (fun _ _ h => (hB12.back _ _ (hB24.back _ _ h))) (fun wx hw => ⟨n15, fl16, fc17, y18, yA19, yC20, (y18.drop o.length), ?_, ?_, (R39.StmJ.kept hf21 (Kp.and (roR0.againF (((((hw.front 1 _ rfl).front 5 _ rfl).front 5 _ rfl).front 3 _ rfl).keep [true, true, true, true, false, false] rfl)).kp (Kp.and (rlR0.againF (((((hw.front 1 _ rfl).front 5 _ rfl).front 5 _ rfl).front 3 _ rfl).keep [true, true, true, true, false, false] rfl)).kp (Kp.pure (by first | assumption | exact Nat.zero_le _))))), ?_, ?_, ?_⟩)
      ·rfl
      ·rfl
      ·first | exact (List.append_nil o).symm | exact hf21.new
      ·first | assumption | omega
      ·intro P
       first
        | (rw [R39.in_stm (R39.LnK.of (by assumption) (by assumption) (by assumption) hf9) (R39.len1 (by assumption)) c39f1_]; exact hf21.line rfl)
        | (rw [List.append_nil]; first | exact .zero (R39.in_idle (by assumption)) | exact .err (R39.in_repl (by assumption) (by assumption)) (by assumption) | exact .err (R39.in_scan (by assumption) (by assumption) (by assumption)) (by assumption) | exact .zero (R39.in_none (R39.LnK.of (by assumption) (by assumption) (by assumption) hf9) (R39.len0 (by assumption))) | exact .err (R39.in_nine (R39.LnK.of (by assumption) (by assumption) (by assumption) hf9) (R39.len1 (by assumption)) c39f2_) (by decide) | exact .err (R39.in_three (R39.LnK.of (by assumption) (by assumption) (by assumption) hf9) (R39.len1 (by assumption)) hk) (by decide))
     ·refine JO_read (Value.tuple #[Value.func (.func 90) #[] #[], vB true]) rfl trivial (x_lookup_ok 4 (f := vS) (k := (ro.getD 0 [])) rfl rfl rfl Tryd.underlying100 (mapK_s Tryd.underlying9) Ty.ze124 (lk_ne c39f0_ (lk_ne c39f0_ (lk_ne c39f0_ (lk_ne c39f0_ (lk_ne c39f0_ (lk_hit (by exact hk)))))))) ?_
      refine s_ mv_ (s_ (ex_ 0) (s_ (ex_ 1) (s_ av_ (s_ av_ (z_ (xk_ [0, 5, 6, 7, 10, 11, 12] ?_))))))
      refine n_ (q_ (q_ (g_ (s_ mv_ (jr_ (vB false) (z_ (n_ (iff_ (sk_ (n_ (q_ (g_ (s_ mv_ (s_ mv_ (r_ (ldN 1 [vL rowsA rows.length rowsC, vS cl, vB true] Ty.ag82 Ty.sz82) (s_ mv_ ?_))))))))))))))))
      refine JO_callB (Lown [Ent.blk r 77 [Value.map (some mB), pr, vL oA o.length oC], Ent.row (.slice oA o.length oC) 40 4 o.length (o.flatMap Statement.enc)]) [Ent.blk r 77 [Value.map (some mB), pr, vL oA o.length oC], Ent.row (.slice oA o.length oC) 40 4 o.length (o.flatMap Statement.enc)] [Ent.blk b2 79 [vI 0, vI 0], Ent.blk b1 82 [vL rowsA rows.length rowsC, vS cl, vB true], Ent.mp vS mB (M.map kvS), Ent.mp vS kb [([115, 101, 116], Value.func (.func 86) #[] #[]), ([112, 114, 111, 99], Value.func (.func 87) #[] #[]), ([101, 110, 100], Value.func (.func 88) #[] #[]), ([99, 97, 108, 108], Value.func (.func 89) #[] #[]), ([106, 111, 98], Value.func (.func 90) #[] #[]), ([115, 116, 101, 112], Value.func (.func 90) #[] #[]), ([100, 100], Value.func (.func 90) #[] #[])]] rfl trivial (fun _ => x_callv (first := []) (caps := []) rfl Ty.ca90 rfl) (fun _ h => ((((((h.front 4 _ rfl).front 4 _ rfl).front 3 _ rfl).front 3 _ rfl).front 5 _ rfl).front 5 _ rfl).keep [true, true, true, true, true, true] rfl) lown_mem (fun w hS => f90_ok r (Value.map (some mB)) pr o oA oC o.length rows rowsA rowsC cl true ro roA roC w (rowsR.on hS lown_mem) (roR.on hS lown_mem) hy_ hy_ hy_ hy_ hy_ hy_ hy_ (hS.give lown_in)) ?_
      rintro wc _ _ wbhB35 ⟨n25, fl26, fc27, y28, yA29, yC30, rl31, rl31A, rl31C, rfl, rfl, rl31R, rl31L, hf32, hf33, hf34⟩ hc0 hB35
      have rowsR := rowsR.again hB35
      have roR0 := roR0.againF hB35
      have roR := roR.again hB35
      have hT := hT.again hB35
      have rl31R0 := rl31R.mono (lown_rangeAF (w00 := w) hc0 (hB12.back _ _ hc0).fr.size)
      have rl31R := rl31R.mono (lown_rangeA hc0)
      refine s_ (ex_ 0) (s_ (ex_ 1) (s_ av_ (o_ (stG 2 Ty.sz79 ?_))))
      refine z_ (n_ (rt_ ?_))
      refine JX_retsD [_, _] (Value.tuple #[_, _]) Tryd.results63 (fun w h => ⟨rfl, ⟨_, rfl, load_blkN 2 [vI fl26, vI fc27] h rfl Ty.ag79 Ty.sz79 rfl⟩, trivial⟩) rfl [Ent.blk r 77 [Value.map (some mB), pr, vL yA29 y28.length yC30], Ent.mp vS mB (M.map kvS), Ent.mp vS kb [([115, 101, 116], Value.func (.func 86) #[] #[]), ([112, 114, 111, 99], Value.func (.func 87) #[] #[]), ([101, 110, 100], Value.func (.func 88) #[] #[]), ([99, 97, 108, 108], Value.func (.func 89) #[] #[]), ([106, 111, 98], Value.func (.func 90) #[] #[]), ([115, 116, 101, 112], Value.func (.func 90) #[] #[]), ([100, 100], Value.func (.func 90) #[] #[])], Ent.row (.slice yA29 y28.length yC30) 40 4 y28.length (y28.flatMap Statement.enc)] (fun _ h => ((((h.front 1 _ rfl).front 5 _ rfl).front 5 _ rfl).front 3 _ rfl).keep [true, true, true, true, false, false] rfl) (fun _ _ h => (hB12.back _ _ (hB35.back _ _ h))) (fun wx hw => ⟨n25, fl26, fc27, y28, yA29, yC30, (y28.drop o.length), ?_, ?_, (R39.StmJ.kept hf32 (Kp.and (roR0.againF (((((hw.front 1 _ rfl).front 5 _ rfl).front 5 _ rfl).front 3 _ rfl).keep [true, true, true, true, false, false] rfl)).kp (Kp.and (rl31R0.againF (((((hw.front 1 _ rfl).front 5 _ rfl).front 5 _ rfl).front 3 _ rfl).keep [true, true, true, true, false, false] rfl)).kp (Kp.pure (by first | assumption | exact Nat.zero_le _))))), ?_, ?_, ?_⟩)
      ·rfl
      ·rfl
      ·first | exact (List.append_nil o).symm | exact hf32.new
      ·first | assumption | omega
      ·intro P
       first
        | (rw [R39.in_stm (R39.LnK.of (by assumption) (by assumption) (by assumption) hf9) (R39.len1 (by assumption)) c39f1_]; exact hf32.line rfl)
        | (rw [List.append_nil]; first | exact .zero (R39.in_idle (by assumption)) | exact .err (R39.in_repl (by assumption) (by assumption)) (by assumption) | exact .err (R39.in_scan (by assumption) (by assumption) (by assumption)) (by assumption) | exact .zero (R39.in_none (R39.LnK.of (by assumption) (by assumption) (by assumption) hf9) (R39.len0 (by assumption))) | exact .err (R39.in_nine (R39.LnK.of (by assumption) (by assumption) (by assumption) hf9) (R39.len1 (by assumption)) c39f2_) (by decide) | exact .err (R39.in_three (R39.LnK.of (by assumption) (by assumption) (by assumption) hf9) (R39.len1 (by assumption)) hk) (by decide))
     ·refine JO_read (Value.tuple #[Value.func (.func 90) #[] #[], vB true]) rfl trivial (x_lookup_ok 4 (f := vS) (k := (ro.getD 0 [])) rfl rfl rfl Tryd.underlying100 (mapK_s Tryd.underlying9) Ty.ze124 (lk_ne c39f0_ (lk_ne c39f0_ (lk_ne c39f0_ (lk_ne c39f0_ (lk_ne c39f0_ (lk_ne c39f0_ (lk_hit (by exact hk))))))))) ?_
      refine s_ mv_ (s_ (ex_ 0) (s_ (ex_ 1) (s_ av_ (s_ av_ (z_ (xk_ [0, 5, 6, 7, 10, 11, 12] ?_))))))
      refine n_ (q_ (q_ (g_ (s_ mv_ (jr_ (vB false) (z_ (n_ (iff_ (sk_ (n_ (q_ (g_ (s_ mv_ (s_ mv_ (r_ (ldN 1 [vL rowsA rows.length rowsC, vS cl, vB true] Ty.ag82 Ty.sz82) (s_ mv_ ?_))))))))))))))))
      refine JO_callB (Lown [Ent.blk r 77 [Value.map (some mB), pr, vL oA o.length oC], Ent.row (.slice oA o.length oC) 40 4 o.length (o.flatMap Statement.enc)]) [Ent.blk r 77 [Value.map (some mB), pr, vL oA o.length oC], Ent.row (.slice oA o.length oC) 40 4 o.length (o.flatMap Statement.enc)] [Ent.blk b2 79 [vI 0, vI 0], Ent.blk b1 82 [vL rowsA rows.length rowsC, vS cl, vB true], Ent.mp vS mB (M.map kvS), Ent.mp vS kb [([115, 101, 116], Value.func (.func 86) #[] #[]), ([112, 114, 111, 99], Value.func (.func 87) #[] #[]), ([101, 110, 100], Value.func (.func 88) #[] #[]), ([99, 97, 108, 108], Value.func (.func 89) #[] #[]), ([106, 111, 98], Value.func (.func 90) #[] #[]), ([115, 116, 101, 112], Value.func (.func 90) #[] #[]), ([100, 100], Value.func (.func 90) #[] #[])]] rfl trivial (fun _ => x_callv (first := []) (caps := []) rfl Ty.ca90 rfl) (fun _ h => ((((((h.front 4 _ rfl).front 4 _ rfl).front 3 _ rfl).front 3 _ rfl).front 5 _ rfl).front 5 _ rfl).keep [true, true, true, true, true, true] rfl) lown_mem (fun w hS => f90_ok r (Value.map (some mB)) pr o oA oC o.length rows rowsA rowsC cl true ro roA roC w (rowsR.on hS lown_mem) (roR.on hS lown_mem) hy_ hy_ hy_ hy_ hy_ hy_ hy_ (hS.give lown_in)) ?_
      rintro wc _ _ wbhB46 ⟨n36, fl37, fc38, y39, yA40, yC41, rl42, rl42A, rl42C, rfl, rfl, rl42R, rl42L, hf43, hf44, hf45⟩ hc0 hB46
      have rowsR := rowsR.again hB46
      have roR0 := roR0.againF hB46
      have roR := roR.again hB46
      have hT := hT.again hB46
      have rl42R0 := rl42R.mono (lown_rangeAF (w00 := w) hc0 (hB12.back _ _ hc0).fr.size)
      have rl42R := rl42R.mono (lown_rangeA hc0)
      refine s_ (ex_ 0) (s_ (ex_ 1) (s_ av_ (o_ (stG 2 Ty.sz79 ?_))))
      refine z_ (n_ (rt_ ?_))
      refine JX_retsD [_, _] (Value.tuple #[_, _]) Tryd.results63 (fun w h => ⟨rfl, ⟨_, rfl, load_blkN 2 [vI fl37, vI fc38] h rfl Ty.ag79 Ty.sz79 rfl⟩, trivial⟩) rfl [Ent.blk r 77 [Value.map (some mB), pr, vL yA40 y39.length yC41], Ent.mp vS mB (M.map kvS), Ent.mp vS kb [([115, 101, 116], Value.func (.func 86) #[] #[]), ([112, 114, 111, 99], Value.func (.func 87) #[] #[]), ([101, 110, 100], Value.func (.func 88) #[] #[]), ([99, 97, 108, 108], Value.func (.func 89) #[] #[]), ([106, 111, 98], Value.func (.func 90) #[] #[]), ([115, 116, 101, 112], Value.func (.func 90) #[] #[]), ([100, 100], Value.func (.func 90) #[] #[])], Ent.row (.slice yA40 y39.length yC41) 40 4 y39.length (y39.flatMap Statement.enc)] (fun _ h => ((((h.front 1 _ rfl).front 5 _ rfl).front 5 _ rfl).front 3 _ rfl).keep [true, true, true, true, false, false] rfl) (fun _ _ h => (hB12.back _ _ (hB46.back _ _ h))) (fun wx hw => ⟨n36, fl37, fc38, y39, yA40, yC41, (y39.drop o.length), ?_, ?_, (R39.StmJ.kept hf43 (Kp.and (roR0.againF (((((hw.front 1 _ rfl).front 5 _ rfl).front 5 _ rfl).front 3 _ rfl).keep [true, true, true, true, false, false] rfl)).kp (Kp.and (rl42R0.againF (((((hw.front 1 _ rfl).front 5 _ rfl).front 5 _ rfl).front 3 _ rfl).keep [true, true, true, true, false, false] rfl)).kp (Kp.pure (by first | assumption | exact Nat.zero_le _))))), ?_, ?_, ?_⟩)
      ·rfl
      ·rfl
      ·first | exact (List.append_nil o).symm | exact hf43.new
      ·first | assumption | omega
      ·intro P
       first
        | (rw [R39.in_stm (R39.LnK.of (by assumption) (by assumption) (by assumption) hf9) (R39.len1 (by assumption)) c39f1_]; exact hf43.line rfl)
        | (rw [List.append_nil]; first | exact .zero (R39.in_idle (by assumption)) | exact .err (R39.in_repl (by assumption) (by assumption)) (by assumption) | exact .err (R39.in_scan (by assumption) (by assumption) (by assumption)) (by assumption) | exact .zero (R39.in_none (R39.LnK.of (by assumption) (by assumption) (by assumption) hf9) (R39.len0 (by assumption))) | exact .err (R39.in_nine (R39.LnK.of (by assumption) (by assumption) (by assumption) hf9) (R39.len1 (by assumption)) c39f2_) (by decide) | exact .err (R39.in_three (R39.LnK.of (by assumption) (by assumption) (by assumption) hf9) (R39.len1 (by assumption)) hk) (by decide))
     ·obtain ⟨hn0, hn1, hn2, hn3, hn4, hn5, hn6⟩ := hk
      have hk := R39.keys_none hn0 hn1 hn2 hn3 hn4 hn5 hn6
      refine JO_read (Value.tuple #[Value.nilFunc, vB false]) rfl trivial (x_lookup_ok 4 (f := vS) (k := (ro.getD 0 [])) rfl rfl rfl Tryd.underlying100 (mapK_s Tryd.underlying9) Ty.ze124 (lk_ne c39f0_ (lk_ne c39f0_ (lk_ne c39f0_ (lk_ne c39f0_ (lk_ne c39f0_ (lk_ne c39f0_ (lk_ne c39f0_ lk_nil)))))))) ?_
      refine s_ mv_ (s_ (ex_ 0) (s_ (ex_ 1) (s_ av_ (s_ av_ (z_ (xk_ [0, 5, 6, 7, 10, 11, 12] ?_))))))
      refine n_ (q_ (q_ (g_ (s_ mv_ (jr_ (vB true) (z_ (n_ (ift (q_ (g_ (r_ (ldN 1 [vL rowsA rows.length rowsC, vS cl, vB true] Ty.ag82 Ty.sz82) (c0 (cl_ Ty.ca91) (fun w hS => f91_ok rows _ _ cl true 3 w (rno rowsR hS) hy_) (s_ av_ (o_ (stG 0 Ty.sz79 ?_)))))))))))))))
      refine z_ (n_ (rt_ (nr_ ?_)))
      refine JX_retsD [_, _] (Value.tuple #[_, _]) Tryd.results63 (fun w h => ⟨rfl, ⟨_, rfl, load_blkN 0 [vI ((rows.getD 0 default).number), vI 3] h rfl Ty.ag79 Ty.sz79 rfl⟩, trivial⟩) rfl _ (fun _ h => h.keep [false, false, true, true, true, true] rfl) (fun _ _ h => (hB12.back _ _ h)) (fun wx hw => ⟨0, (rows.getD 0 default).number, 3, o, oA, oC, ([] : List Statement), ?_, ?_, R39.okN_nil, ?_, ?_, ?_⟩)
      ·rfl
      ·rfl
      ·exact c39f3_
      ·first | assumption | omega
      ·intro P
       first
        | (rw [R39.in_stm (R39.LnK.of (by assumption) (by assumption) (by assumption) hf9) (R39.len1 (by assumption)) c39f1_]; exact no_such_condition.line rfl)
        | (rw [List.append_nil]; first | exact .zero (R39.in_idle (by assumption)) | exact .err (R39.in_repl (by assumption) (by assumption)) (by assumption) | exact .err (R39.in_scan (by assumption) (by assumption) (by assumption)) (by assumption) | exact .zero (R39.in_none (R39.LnK.of (by assumption) (by assumption) (by assumption) hf9) (R39.len0 (by assumption))) | exact .err (R39.in_nine (R39.LnK.of (by assumption) (by assumption) (by assumption) hf9) (R39.len1 (by assumption)) c39f2_) (by decide) | exact .err (R39.in_three (R39.LnK.of (by assumption) (by assumption) (by assumption) hf9) (R39.len1 (by assumption)) hk) (by decide))
end Go.Proofs.YtbfiibgmgopnaaaDoor

namespace Go.Proofs.YtbfiibgmgopnaaaDoor
open Go.GV
namespace R39
theorem LnJ.okA {f : List (Bytes × Pr) → Res (Nat × RS)} {g : List (Bytes × Pr) → RS} {n fl fc : Int} (h : ∀ P, LnJ (f P) n fl fc (g P)) (hc : ¬ fc ≠ 0) : ∃ k : Nat, n = k ∧ ∀ P, f P = .ok (k, g P) := by
  rcases h [] with ⟨k, _, hn, _⟩ | ⟨_, h2⟩
  · refine ⟨k, hn, fun P => ?_⟩
    rcases h P with ⟨k2, hr, hn2, _⟩ | ⟨_, h2⟩
    · have : k2 = k := by omega
      rw [hr, this]
    · exact absurd h2 hc
  · exact absurd h2 hc
theorem LnJ.erA {f : List (Bytes × Pr) → Res (Nat × RS)} {g : List (Bytes × Pr) → RS} {n fl fc : Int} (h : ∀ P, LnJ (f P) n fl fc (g P)) (hc : fc ≠ 0) : ∀ P, f P = .error (fl, fc) := fun P => by
  rcases h P with ⟨_, _, _, _, h2⟩ | ⟨h1, _⟩
  · exact absurd h2 hc
  · exact h1
def RdJ (R : Res RS) (fl fc : Int) (s : RS) : Prop := (R = .ok s ∧ fl = 0 ∧ fc = 0) ∨ (R = .error (fl, fc) ∧ fc ≠ 0)
section
variable {cl : Bytes} {rows X : List Row} {s0 s s' : RS} {k : Nat} {e : Int × Int}
theorem row_head {l : List Row} (h : 0 < l.length) : l = l.getD 0 default :: l.drop 1 := by
  have := dropL h default
  rwa [List.drop_zero] at this
theorem drop_more (l : List Row) (k : Nat) : (l.drop 1).drop k = l.drop (k + 1) := by rw [List.drop_drop, Nat.add_comm]
theorem read_step (h : readIn cl rows s0 = readIn cl X s) (hx : 0 < X.length) (hk : lineIn cl (X.getD 0 default) (X.drop 1) s = .ok (k, s')) : readIn cl rows s0 = readIn cl (X.drop (k + 1)) s' := by
  rw [h, row_head hx, readIn_cons, hk]
  show readIn cl ((X.drop 1).drop k) s' = _
  rw [drop_more, ← row_head hx]
theorem read_err (h : readIn cl rows s0 = readIn cl X s) (hx : 0 < X.length) (hk : lineIn cl (X.getD 0 default) (X.drop 1) s = .error e) : readIn cl rows s0 = .error e := by
  rw [h, row_head hx, readIn_cons, hk]
theorem read_done (h : readIn cl rows s0 = readIn cl X s) (hx : ¬ 0 < X.length) : readIn cl rows s0 = .ok s := by
  have : X = [] := List.length_eq_zero_iff.1 (by omega)
  rw [h, this]; rfl
end
section
variable {S : List Nat} {w : World} {o z y N : List Statement}
theorem kept_start : Kp S w (okL Statement.ok (o.drop o.length)) := by rw [List.drop_length]; exact okN_nil
theorem kept_more (h : y = z ++ N) (hz : z = o ++ z.drop o.length) (k1 : Kp S w (okL Statement.ok (z.drop o.length))) (k2 : Kp S w (okL Statement.ok N)) : Kp S w (okL Statement.ok (y.drop o.length)) := by
  have e : y.drop o.length = z.drop o.length ++ N := by
    rw [h, List.drop_append_of_le_length]
    have := congrArg List.length hz
    rw [List.length_append] at this; omega
  rw [e]; exact okL_app k1 k2
theorem pre_start : o = o ++ o.drop o.length := by rw [List.drop_length, List.append_nil]
theorem pre_more (h : y = z ++ N) (hz : z = o ++ z.drop o.length) : y = o ++ y.drop o.length := by
  have e : y.drop o.length = z.drop o.length ++ N := by
    rw [h, List.drop_append_of_le_length]
    have := congrArg List.length hz
    rw [List.length_append] at this; omega
  rw [e, ← List.append_assoc, ← hz]; exact h
end
theorem txt_drop {X : List Row} (h : ∀ i, (X.getD i default).text.length ≤ 20000) (k : Nat) : ∀ i, ((X.drop k).getD i default).text.length ≤ 20000 := fun i => by
  have := h (k + i)
  rwa [List.getD_eq_getElem?_getD, ← List.getElem?_drop, ← List.getD_eq_getElem?_getD] at this
end R39
end Go.Proofs.YtbfiibgmgopnaaaDoor
