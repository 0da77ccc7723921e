/- contracts C39j -/
import Derived.Test.YtbfiibgmgopnaaaDoorJobtextLines14
set_option linter.unusedVariables false
set_option linter.unusedSimpArgs false
namespace Go.Proofs.YtbfiibgmgopnaaaDoor
open Go.GV
set_option linter.unusedVariables false
set_option linter.unusedSimpArgs false
theorem c39j0_ {p : Prop} (h : p := by first | (rw [hk]; decide) | exact hn0 | exact hn1 | exact hn2 | exact hn3 | exact hn4 | exact hn5 | exact hn6) : p := h
theorem c39j1_ {p : Prop} (h : p := by first | exact .inl hk | exact .inr (.inl hk) | exact .inr (.inr hk)) : p := h
theorem c39j2_ {p : Prop} (h : p := by first | rfl | exact congrArg (List.map R39.procE) (List.append_nil P).symm) : p := h
theorem c39j3_ {p : Prop} (h : p := by first | assumption | exact (List.append_nil o).symm | exact no_such_condition.new) : p := h
set_option maxHeartbeats 4000000 in
set_option maxRecDepth 20000 in
theorem line_out (r : Nat) (kb : Nat) (mB : Nat) (M : List (Bytes × Bytes)) (qB : Nat) (P : R39.PL) (o : List Statement) (oA : Option Addr) (oC : Nat) (oN : Nat) (rows : List Row) (rowsA : Option Addr) (rowsC : Nat) (w : World) (rowsR : RO (Lown [Ent.blk r 77 [Value.map (some mB), Value.map (some qB), vL oA oN oC], Ent.mp vS mB (M.map kvS), Ent.mp vS kb [([115, 101, 116], Value.func (.func 86) #[] #[]), ([112, 114, 111, 99], Value.func (.func 87) #[] #[]), ([101, 110, 100], Value.func (.func 88) #[] #[]), ([99, 97, 108, 108], Value.func (.func 89) #[] #[]), ([106, 111, 98], Value.func (.func 90) #[] #[]), ([115, 116, 101, 112], Value.func (.func 90) #[] #[]), ([100, 100], Value.func (.func 90) #[] #[])], Ent.mp vS qB (P.map R39.procE), Ent.row (.slice oA oN oC) 40 4 oN (o.flatMap Statement.enc)]) w rowsA (rows.flatMap Row.enc)) (PN : Kp (Lown [Ent.blk r 77 [Value.map (some mB), Value.map (some qB), vL oA oN oC], Ent.mp vS mB (M.map kvS), Ent.mp vS kb [([115, 101, 116], Value.func (.func 86) #[] #[]), ([112, 114, 111, 99], Value.func (.func 87) #[] #[]), ([101, 110, 100], Value.func (.func 88) #[] #[]), ([99, 97, 108, 108], Value.func (.func 89) #[] #[]), ([106, 111, 98], Value.func (.func 90) #[] #[]), ([115, 116, 101, 112], Value.func (.func 90) #[] #[]), ([100, 100], Value.func (.func 90) #[] #[])], Ent.mp vS qB (P.map R39.procE), Ent.row (.slice oA oN oC) 40 4 oN (o.flatMap Statement.enc)]) w (R39.PkA P)) (hT : Tab (Lown [Ent.blk r 77 [Value.map (some mB), Value.map (some qB), vL oA oN oC], Ent.mp vS mB (M.map kvS), Ent.mp vS kb [([115, 101, 116], Value.func (.func 86) #[] #[]), ([112, 114, 111, 99], Value.func (.func 87) #[] #[]), ([101, 110, 100], Value.func (.func 88) #[] #[]), ([99, 97, 108, 108], Value.func (.func 89) #[] #[]), ([106, 111, 98], Value.func (.func 90) #[] #[]), ([115, 116, 101, 112], Value.func (.func 90) #[] #[]), ([100, 100], Value.func (.func 90) #[] #[])], Ent.mp vS qB (P.map R39.procE), Ent.row (.slice oA oN oC) 40 4 oN (o.flatMap Statement.enc)]) w) (oQ : oN = o.length) (q0 : 0 < rows.length) (q1 : rows.length ≤ rowsC) (q2 : rows.length ≤ 100000) (q3 : ∀ i, (rows.getD i default).text.length ≤ 20000) (q4 : R39.ShortV M) (q5 : o.length ≤ 400) (PG : R39.PgA P) (hg : Give (Lown [Ent.blk r 77 [Value.map (some mB), Value.map (some qB), vL oA oN oC], Ent.mp vS mB (M.map kvS), Ent.mp vS kb [([115, 101, 116], Value.func (.func 86) #[] #[]), ([112, 114, 111, 99], Value.func (.func 87) #[] #[]), ([101, 110, 100], Value.func (.func 88) #[] #[]), ([99, 97, 108, 108], Value.func (.func 89) #[] #[]), ([106, 111, 98], Value.func (.func 90) #[] #[]), ([115, 116, 101, 112], Value.func (.func 90) #[] #[]), ([100, 100], Value.func (.func 90) #[] #[])], Ent.mp vS qB (P.map R39.procE), Ent.row (.slice oA oN oC) 40 4 oN (o.flatMap Statement.enc)]) w [Ent.blk r 77 [Value.map (some mB), Value.map (some qB), vL oA oN oC], Ent.mp vS mB (M.map kvS), Ent.mp vS kb [([115, 101, 116], Value.func (.func 86) #[] #[]), ([112, 114, 111, 99], Value.func (.func 87) #[] #[]), ([101, 110, 100], Value.func (.func 88) #[] #[]), ([99, 97, 108, 108], Value.func (.func 89) #[] #[]), ([106, 111, 98], Value.func (.func 90) #[] #[]), ([115, 116, 101, 112], Value.func (.func 90) #[] #[]), ([100, 100], Value.func (.func 90) #[] #[])], Ent.mp vS qB (P.map R39.procE), Ent.row (.slice oA oN oC) 40 4 oN (o.flatMap Statement.enc)]) : Calls Tryd.prog 63 #[pB r 0, Value.map (some kb), vG [vL rowsA rows.length rowsC, vS [], vB false]] w (GivesW (Lown [Ent.blk r 77 [Value.map (some mB), Value.map (some qB), vL oA oN oC], Ent.mp vS mB (M.map kvS), Ent.mp vS kb [([115, 101, 116], Value.func (.func 86) #[] #[]), ([112, 114, 111, 99], Value.func (.func 87) #[] #[]), ([101, 110, 100], Value.func (.func 88) #[] #[]), ([99, 97, 108, 108], Value.func (.func 89) #[] #[]), ([106, 111, 98], Value.func (.func 90) #[] #[]), ([115, 116, 101, 112], Value.func (.func 90) #[] #[]), ([100, 100], Value.func (.func 90) #[] #[])], Ent.mp vS qB (P.map R39.procE), Ent.row (.slice oA oN oC) 40 4 oN (o.flatMap Statement.enc)]) w fun v L wx => ∃ n : Int, ∃ fl : Int, ∃ fc : Int, ∃ y : List Statement, ∃ yA : Option Addr, ∃ yC : Nat, ∃ N : List Statement, ∃ M2 : List (Bytes × Bytes), ∃ NP : R39.PL, v = Value.tuple #[vI n, vG [vI fl, vI fc]] ∧ L = [Ent.blk r 77 [Value.map (some mB), Value.map (some qB), vL yA y.length yC], Ent.mp vS mB (M2.map kvS), Ent.mp vS kb [([115, 101, 116], Value.func (.func 86) #[] #[]), ([112, 114, 111, 99], Value.func (.func 87) #[] #[]), ([101, 110, 100], Value.func (.func 88) #[] #[]), ([99, 97, 108, 108], Value.func (.func 89) #[] #[]), ([106, 111, 98], Value.func (.func 90) #[] #[]), ([115, 116, 101, 112], Value.func (.func 90) #[] #[]), ([100, 100], Value.func (.func 90) #[] #[])], Ent.mp vS qB ((P ++ NP).map R39.procE), Ent.row (.slice yA y.length yC) 40 4 y.length (y.flatMap Statement.enc)] ∧ Kp (Lown L ++ List.range w.heap.size) wx (okL Statement.ok N) ∧ Kp (Lown L ++ List.range w.heap.size) wx (R39.PkV NP) ∧ (y = o ++ N) ∧ (y.length ≤ 400) ∧ (R39.ShortV M2) ∧ (R39.PgA NP) ∧ (R39.RowsIn rows rowsA rowsC NP) ∧ (R39.LnJ (R39.lineOut (rows.getD 0 default) (rows.drop 1) (R39.rsOf (lookK M) P o)) n fl fc (R39.rsOf (lookK M2) (P ++ NP) (o ++ N)))) := by
 subst oQ
 have htx := q3 0
 refine calls_JW (Lown [Ent.blk r 77 [Value.map (some mB), Value.map (some qB), vL oA o.length oC], Ent.mp vS mB (M.map kvS), Ent.mp vS kb [([115, 101, 116], Value.func (.func 86) #[] #[]), ([112, 114, 111, 99], Value.func (.func 87) #[] #[]), ([101, 110, 100], Value.func (.func 88) #[] #[]), ([99, 97, 108, 108], Value.func (.func 89) #[] #[]), ([106, 111, 98], Value.func (.func 90) #[] #[]), ([115, 116, 101, 112], Value.func (.func 90) #[] #[]), ([100, 100], Value.func (.func 90) #[] #[])], Ent.mp vS qB (P.map R39.procE), Ent.row (.slice oA o.length oC) 40 4 o.length (o.flatMap Statement.enc)]) 78 Tryd.func63 rfl Tryd.ntmps63 [(0, _), (1, _), (2, _)] rfl rfl hg ?_
 refine q_ (g_ (o_ (bxG fun b1 => ?_)))
 refine s_ av_ (o_ (al_ Ty.ze79 fun b2 => ?_))
 refine z_ (n_ (q_ (g_ (s_ (fA 0 Ty.fi82_0) (r_ (ld_ 1 Ty.sc68) (r_ (ixF (k := 0) Row.enc_len (cells_ro rowsR) Tryd.underlying68 Ty.sz73) (s_ (x_fieldAddr Ty.fi73_1 rfl (adr_add _ _ _)) (r_ (ldF (k := 0) 1 Row.enc_len (cells_ro rowsR) Ty.sc9) (c0 (cl_ Ty.ca23) (fun w hS => trim_ok _ w) ?_)))))))))
 have ha3 := R39.trim_le ((rows.getD 0 default).text)
 refine s_ av_ (z_ (n_ (q_ (q_ (g_ (s_ mv_ (js_ (vB (decide (R39.trim ((rows.getD 0 default).text) = ([] : Bytes)))) (x_eql_s rfl rfl) (s_ mv_ ?_))))))))
 refine or_ 3 (decide ((R39.trim ((rows.getD 0 default).text)).getD 0 0 = (35 : UInt8))) (fun g4 => ?_) ?_
 ·have g4r := g4
  have g4r := of_decide_eq_false g4r
  have g4rl := List.length_pos_iff.2 g4r
  refine sg_ g4 mv_ (sg_ g4 (x_idx_s (k := 0) rfl rfl Tryd.underlying9 (by omega)) (jg_ g4 (vB (decide ((R39.trim ((rows.getD 0 default).text)).getD 0 0 = (35 : UInt8)))) (x_eql_u8 rfl rfl) ?_))
  exact cr_
 refine z_ (n_ ?_)
 refine if_ (fun h5 => ?_) (fun h5 => ?_)
 ·have h5w := h5
  simp only [Bool.and_eq_true, Bool.or_eq_true, Bool.and_eq_false_iff, Bool.or_eq_false_iff, Bool.not_eq_true', Bool.not_eq_false', decide_eq_true_eq, decide_eq_false_iff_not] at h5
  refine q_ (g_ (js_ (vG [vI 0, vI 0]) (x_build (by kernel_rfl)) (s_ av_ (o_ (stG 0 Ty.sz79 ?_)))))
  refine z_ (n_ (rt_ (nr_ ?_)))
  refine JX_retsD [_, _] (Value.tuple #[_, _]) Tryd.results63 (fun w h => ⟨rfl, ⟨_, rfl, load_blkN 0 [vI 0, vI 0] h rfl Ty.ag79 Ty.sz79 rfl⟩, trivial⟩) rfl _ (fun _ h => h.keep [false, false, true, true, true, true, true] rfl) (fun _ _ h => h) (fun wx hw => ⟨0, 0, 0, o, oA, oC, ([] : List Statement), M, ([] : R39.PL), ?_, ?_, R39.okN_nil, R39.pkv_nil, ?_, ?_, ?_, ?_, ?_, ?_⟩)
  ·rfl
  ·have e_y0 : ((P.map R39.procE) : List (Bytes × Value)) = ((P ++ ([] : R39.PL)).map R39.procE) := by
    exact c39j2_
   have e_all := (congrArg (fun (y0 : List (Bytes × Value)) => [Ent.blk r 77 [Value.map (some mB), Value.map (some qB), vL oA o.length oC], Ent.mp vS mB (M.map kvS), Ent.mp vS kb [([115, 101, 116], Value.func (.func 86) #[] #[]), ([112, 114, 111, 99], Value.func (.func 87) #[] #[]), ([101, 110, 100], Value.func (.func 88) #[] #[]), ([99, 97, 108, 108], Value.func (.func 89) #[] #[]), ([106, 111, 98], Value.func (.func 90) #[] #[]), ([115, 116, 101, 112], Value.func (.func 90) #[] #[]), ([100, 100], Value.func (.func 90) #[] #[])], Ent.mp vS qB y0, Ent.row (.slice oA o.length oC) 40 4 o.length (o.flatMap Statement.enc)]) e_y0)
   exact e_all
  ·exact c39j3_
  ·first | assumption | omega
  ·assumption
  ·first | assumption | exact R39.pga_nil
  ·first | assumption | exact R39.rowsIn_nil
  ·first
    | (rw [List.append_nil P, R39.out_stm (R39.LnK.of (s := R39.rsOf (lookK M) P o) (by assumption) (by assumption) (by assumption) no_such_condition) (R39.len1 (by assumption)) c39j1_]; exact R39.StmJ.lineO (R := .ok (0, [])) no_such_condition rfl)
    | (rw [List.append_nil P, R39.out_call (R39.LnK.of (s := R39.rsOf (lookK M) P o) (by assumption) (by assumption) (by assumption) no_such_condition) (R39.len1 (by assumption)) hk]; exact no_such_condition)
    | (rw [List.append_nil o, R39.out_proc (R39.LnK.of (s := R39.rsOf (lookK M) P o) (by assumption) (by assumption) (by assumption) no_such_condition) (R39.len1 (by assumption)) hk]; exact no_such_condition _ _)
    | (rw [List.append_nil o, List.append_nil P, R39.out_set (R39.LnK.of (s := R39.rsOf (lookK M) P o) (by assumption) (by assumption) (by assumption) no_such_condition) (R39.len1 (by assumption)) hk]; exact no_such_condition.line)
    | (rw [List.append_nil o, List.append_nil P]; first | exact .zero (R39.out_idle (by assumption)) | exact .err (R39.out_repl (by assumption) (by assumption)) (by assumption) | exact .err (R39.out_scan (by assumption) (by assumption) (by assumption)) (by assumption) | exact .zero (R39.out_none (R39.LnK.of (s := R39.rsOf (lookK M) P o) (by assumption) (by assumption) (by assumption) no_such_condition) (R39.len0 (by assumption))) | exact .err (R39.out_end (R39.LnK.of (s := R39.rsOf (lookK M) P o) (by assumption) (by assumption) (by assumption) no_such_condition) (R39.len1 (by assumption)) hk) (by decide) | exact .err (R39.out_three (R39.LnK.of (s := R39.rsOf (lookK M) P o) (by assumption) (by assumption) (by assumption) no_such_condition) (R39.len1 (by assumption)) hk) (by decide))
 ·have h5w := h5
  have ⟨h5, h6⟩ := bor_false h5
  have h5 := of_decide_eq_false h5
  have h5l := List.length_pos_iff.2 h5
  have h6 := of_decide_eq_false h6
  refine sk_ (n_ (q_ ?_))
  refine drB [] 15 Ty.mixed ?_
  refine jp_ 0 rfl (fA 0 Ty.fi82_0) (jq_ 1 rfl (ld_ 1 Ty.sc68) (jq_ 2 rfl (ixF (k := 0) Row.enc_len (cells_ro rowsR) Tryd.underlying68 Ty.sz73) (jp_ 3 rfl (x_fieldAddr Ty.fi73_1 rfl (adr_add _ _ _)) (jq_ 4 rfl (ldF (k := 0) 1 Row.enc_len (cells_ro rowsR) Ty.sc9) (jp_ 5 rfl mv_ (jp_ 6 rfl (x_nilCheck rfl) (jp_ 7 rfl (fA 0 Ty.fi77_0) (jq_ 8 rfl (ld_ 2 Ty.sc22) (j1_ 9 ?_ gm_)))))))))
  refine jc0_ rfl (cl_ Ty.ca12) (fun w hS => f12_ok _ M mB w (Kp.of_ent hS 3 rfl) (hT.on hS (fun _ h => by cases h)) hy_ hy_) ?_
  have ha7 := R39.exV_len (m := lookK M) (s := ((rows.getD 0 default).text))
  refine jp_ 10 rfl mv_ (jp_ 11 rfl (ex_ 0) (jp_ 12 rfl (ex_ 1) (jp_ 13 rfl av_ (jp_ 14 rfl av_ ?_))))
  refine JA_done (by kernel_rfl) gm_ ?_
  refine n_ (q_ (q_ (g_ (s_ mv_ (s_ (x_neq_i rfl rfl) (z_ (xk_ [0, 1, 5, 6, 7, 8, 9, 41] ?_)))))))
  refine n_ ?_
  refine ifd (fun h8w h8 => ?_) (fun h8w h8 => ?_)
  ·refine q_ (g_ (r_ (ldN 1 [vL rowsA rows.length rowsC, vS [], vB false] Ty.ag82 Ty.sz82) (s_ mv_ (c0 (cl_ Ty.ca91) (fun w hS => f91_ok rows _ _ [] _ _ w (rno rowsR hS) hy_) (s_ av_ (o_ (stG 0 Ty.sz79 ?_)))))))
   refine z_ (n_ (rt_ (nr_ ?_)))
   refine JX_retsD [_, _] (Value.tuple #[_, _]) Tryd.results63 (fun w h => ⟨rfl, ⟨_, rfl, load_blkN 0 [vI ((rows.getD 0 default).number), vI (R39.exE (R39.replV (lookK M) ((rows.getD 0 default).text)))] h rfl Ty.ag79 Ty.sz79 rfl⟩, trivial⟩) rfl _ (fun _ h => h.keep [false, false, true, true, true, true, true] rfl) (fun _ _ h => h) (fun wx hw => ⟨0, (rows.getD 0 default).number, (R39.exE (R39.replV (lookK M) ((rows.getD 0 default).text))), o, oA, oC, ([] : List Statement), M, ([] : R39.PL), ?_, ?_, R39.okN_nil, R39.pkv_nil, ?_, ?_, ?_, ?_, ?_, ?_⟩)
   ·rfl
   ·have e_y0 : ((P.map R39.procE) : List (Bytes × Value)) = ((P ++ ([] : R39.PL)).map R39.procE) := by
     exact c39j2_
    have e_all := (congrArg (fun (y0 : List (Bytes × Value)) => [Ent.blk r 77 [Value.map (some mB), Value.map (some qB), vL oA o.length oC], Ent.mp vS mB (M.map kvS), Ent.mp vS kb [([115, 101, 116], Value.func (.func 86) #[] #[]), ([112, 114, 111, 99], Value.func (.func 87) #[] #[]), ([101, 110, 100], Value.func (.func 88) #[] #[]), ([99, 97, 108, 108], Value.func (.func 89) #[] #[]), ([106, 111, 98], Value.func (.func 90) #[] #[]), ([115, 116, 101, 112], Value.func (.func 90) #[] #[]), ([100, 100], Value.func (.func 90) #[] #[])], Ent.mp vS qB y0, Ent.row (.slice oA o.length oC) 40 4 o.length (o.flatMap Statement.enc)]) e_y0)
    exact e_all
   ·exact c39j3_
   ·first | assumption | omega
   ·assumption
   ·first | assumption | exact R39.pga_nil
   ·first | assumption | exact R39.rowsIn_nil
   ·first
     | (rw [List.append_nil P, R39.out_stm (R39.LnK.of (s := R39.rsOf (lookK M) P o) (by assumption) (by assumption) (by assumption) no_such_condition) (R39.len1 (by assumption)) c39j1_]; exact R39.StmJ.lineO (R := .ok (0, [])) no_such_condition rfl)
     | (rw [List.append_nil P, R39.out_call (R39.LnK.of (s := R39.rsOf (lookK M) P o) (by assumption) (by assumption) (by assumption) no_such_condition) (R39.len1 (by assumption)) hk]; exact no_such_condition)
     | (rw [List.append_nil o, R39.out_proc (R39.LnK.of (s := R39.rsOf (lookK M) P o) (by assumption) (by assumption) (by assumption) no_such_condition) (R39.len1 (by assumption)) hk]; exact no_such_condition _ _)
     | (rw [List.append_nil o, List.append_nil P, R39.out_set (R39.LnK.of (s := R39.rsOf (lookK M) P o) (by assumption) (by assumption) (by assumption) no_such_condition) (R39.len1 (by assumption)) hk]; exact no_such_condition.line)
     | (rw [List.append_nil o, List.append_nil P]; first | exact .zero (R39.out_idle (by assumption)) | exact .err (R39.out_repl (by assumption) (by assumption)) (by assumption) | exact .err (R39.out_scan (by assumption) (by assumption) (by assumption)) (by assumption) | exact .zero (R39.out_none (R39.LnK.of (s := R39.rsOf (lookK M) P o) (by assumption) (by assumption) (by assumption) no_such_condition) (R39.len0 (by assumption))) | exact .err (R39.out_end (R39.LnK.of (s := R39.rsOf (lookK M) P o) (by assumption) (by assumption) (by assumption) no_such_condition) (R39.len1 (by assumption)) hk) (by decide) | exact .err (R39.out_three (R39.LnK.of (s := R39.rsOf (lookK M) P o) (by assumption) (by assumption) (by assumption) no_such_condition) (R39.len1 (by assumption)) hk) (by decide))
  ·refine sk_ (n_ (q_ (g_ (s_ mv_ ?_))))
   refine JO_callB [] [] [Ent.blk b2 79 [vI 0, vI 0], Ent.blk b1 82 [vL rowsA rows.length rowsC, vS [], vB false], Ent.blk r 77 [Value.map (some mB), Value.map (some qB), vL oA o.length oC], Ent.mp vS mB (M.map kvS), Ent.mp vS kb [([115, 101, 116], Value.func (.func 86) #[] #[]), ([112, 114, 111, 99], Value.func (.func 87) #[] #[]), ([101, 110, 100], Value.func (.func 88) #[] #[]), ([99, 97, 108, 108], Value.func (.func 89) #[] #[]), ([106, 111, 98], Value.func (.func 90) #[] #[]), ([115, 116, 101, 112], Value.func (.func 90) #[] #[]), ([100, 100], Value.func (.func 90) #[] #[])], Ent.mp vS qB (P.map R39.procE), Ent.row (.slice oA o.length oC) 40 4 o.length (o.flatMap Statement.enc)] rfl trivial (fun _ => x_call Ty.ca10 rfl) (fun _ h => h) (fun _ h => by cases h) (fun w hS => f10k_ok (R39.exV (R39.replV (lookK M) ((rows.getD 0 default).text))) w hy_) ?_
   rintro wc _ _ wbhB12 ⟨ro, roA, roC, rfl, rfl, roR, roL, hf9, hf10, hf11⟩ hc0 hB12
   have rowsR := rowsR.again hB12
   have hT := hT.again hB12
   have PN := PN.again hB12
   have roR0 := roR.mono (lown_rangeF (w00 := w) hc0 hc0.fr.size)
   have roR := roR.mono (lown_range hc0)
   try simp only [List.length_cons, List.length_nil, Nat.zero_add, Nat.reduceAdd] at hf11
   refine s_ mv_ (s_ (ex_ 0) (s_ (ex_ 1) (s_ av_ (s_ av_ (z_ (n_ (q_ (q_ (g_ (s_ mv_ (s_ (x_neq_i rfl rfl) (z_ (n_ ?_)))))))))))))
   refine ifd (fun h13w h13 => ?_) (fun h13w h13 => ?_)
   ·refine q_ (g_ (r_ (ldN 1 [vL rowsA rows.length rowsC, vS [], vB false] Ty.ag82 Ty.sz82) (s_ mv_ (c0 (cl_ Ty.ca91) (fun w hS => f91_ok rows _ _ [] _ _ w (rno rowsR hS) hy_) (s_ av_ (o_ (stG 0 Ty.sz79 ?_)))))))
    refine z_ (n_ (rt_ (nr_ ?_)))
    refine JX_retsD [_, _] (Value.tuple #[_, _]) Tryd.results63 (fun w h => ⟨rfl, ⟨_, rfl, load_blkN 0 [vI ((rows.getD 0 default).number), vI (R39.scanE (R39.exV (R39.replV (lookK M) ((rows.getD 0 default).text))))] h rfl Ty.ag79 Ty.sz79 rfl⟩, trivial⟩) rfl _ (fun _ h => h.keep [false, false, true, true, true, true, true] rfl) (fun _ _ h => (hB12.back _ _ h)) (fun wx hw => ⟨0, (rows.getD 0 default).number, (R39.scanE (R39.exV (R39.replV (lookK M) ((rows.getD 0 default).text)))), o, oA, oC, ([] : List Statement), M, ([] : R39.PL), ?_, ?_, R39.okN_nil, R39.pkv_nil, ?_, ?_, ?_, ?_, ?_, ?_⟩)
    ·rfl
    ·have e_y0 : ((P.map R39.procE) : List (Bytes × Value)) = ((P ++ ([] : R39.PL)).map R39.procE) := by
      exact c39j2_
     have e_all := (congrArg (fun (y0 : List (Bytes × Value)) => [Ent.blk r 77 [Value.map (some mB), Value.map (some qB), vL oA o.length oC], Ent.mp vS mB (M.map kvS), Ent.mp vS kb [([115, 101, 116], Value.func (.func 86) #[] #[]), ([112, 114, 111, 99], Value.func (.func 87) #[] #[]), ([101, 110, 100], Value.func (.func 88) #[] #[]), ([99, 97, 108, 108], Value.func (.func 89) #[] #[]), ([106, 111, 98], Value.func (.func 90) #[] #[]), ([115, 116, 101, 112], Value.func (.func 90) #[] #[]), ([100, 100], Value.func (.func 90) #[] #[])], Ent.mp vS qB y0, Ent.row (.slice oA o.length oC) 40 4 o.length (o.flatMap Statement.enc)]) e_y0)
     exact e_all
    ·exact c39j3_
    ·first | assumption | omega
    ·assumption
    ·first | assumption | exact R39.pga_nil
    ·first | assumption | exact R39.rowsIn_nil
    ·first
      | (rw [List.append_nil P, R39.out_stm (R39.LnK.of (s := R39.rsOf (lookK M) P o) (by assumption) (by assumption) (by assumption) hf9) (R39.len1 (by assumption)) c39j1_]; exact R39.StmJ.lineO (R := .ok (0, [])) no_such_condition rfl)
      | (rw [List.append_nil P, R39.out_call (R39.LnK.of (s := R39.rsOf (lookK M) P o) (by assumption) (by assumption) (by assumption) hf9) (R39.len1 (by assumption)) hk]; exact no_such_condition)
      | (rw [List.append_nil o, R39.out_proc (R39.LnK.of (s := R39.rsOf (lookK M) P o) (by assumption) (by assumption) (by assumption) hf9) (R39.len1 (by assumption)) hk]; exact no_such_condition _ _)
      | (rw [List.append_nil o, List.append_nil P, R39.out_set (R39.LnK.of (s := R39.rsOf (lookK M) P o) (by assumption) (by assumption) (by assumption) hf9) (R39.len1 (by assumption)) hk]; exact no_such_condition.line)
      | (rw [List.append_nil o, List.append_nil P]; first | exact .zero (R39.out_idle (by assumption)) | exact .err (R39.out_repl (by assumption) (by assumption)) (by assumption) | exact .err (R39.out_scan (by assumption) (by assumption) (by assumption)) (by assumption) | exact .zero (R39.out_none (R39.LnK.of (s := R39.rsOf (lookK M) P o) (by assumption) (by assumption) (by assumption) hf9) (R39.len0 (by assumption))) | exact .err (R39.out_end (R39.LnK.of (s := R39.rsOf (lookK M) P o) (by assumption) (by assumption) (by assumption) hf9) (R39.len1 (by assumption)) hk) (by decide) | exact .err (R39.out_three (R39.LnK.of (s := R39.rsOf (lookK M) P o) (by assumption) (by assumption) (by assumption) hf9) (R39.len1 (by assumption)) hk) (by decide))
   ·refine sk_ (n_ (q_ (q_ (g_ (s_ mv_ (s_ (lnS Tryd.underlying24) (s_ (x_eql_i rfl rfl) (z_ (n_ ?_)))))))))
    refine ifd (fun h14w h14 => ?_) (fun h14w h14 => ?_)
    ·refine q_ (g_ (js_ (vG [vI 0, vI 0]) (x_build (by kernel_rfl)) (s_ av_ (o_ (stG 0 Ty.sz79 ?_)))))
     refine z_ (n_ (rt_ (nr_ ?_)))
     refine JX_retsD [_, _] (Value.tuple #[_, _]) Tryd.results63 (fun w h => ⟨rfl, ⟨_, rfl, load_blkN 0 [vI 0, vI 0] h rfl Ty.ag79 Ty.sz79 rfl⟩, trivial⟩) rfl _ (fun _ h => h.keep [false, false, true, true, true, true, true] rfl) (fun _ _ h => (hB12.back _ _ h)) (fun wx hw => ⟨0, 0, 0, o, oA, oC, ([] : List Statement), M, ([] : R39.PL), ?_, ?_, R39.okN_nil, R39.pkv_nil, ?_, ?_, ?_, ?_, ?_, ?_⟩)
     ·rfl
     ·have e_y0 : ((P.map R39.procE) : List (Bytes × Value)) = ((P ++ ([] : R39.PL)).map R39.procE) := by
       exact c39j2_
      have e_all := (congrArg (fun (y0 : List (Bytes × Value)) => [Ent.blk r 77 [Value.map (some mB), Value.map (some qB), vL oA o.length oC], Ent.mp vS mB (M.map kvS), Ent.mp vS kb [([115, 101, 116], Value.func (.func 86) #[] #[]), ([112, 114, 111, 99], Value.func (.func 87) #[] #[]), ([101, 110, 100], Value.func (.func 88) #[] #[]), ([99, 97, 108, 108], Value.func (.func 89) #[] #[]), ([106, 111, 98], Value.func (.func 90) #[] #[]), ([115, 116, 101, 112], Value.func (.func 90) #[] #[]), ([100, 100], Value.func (.func 90) #[] #[])], Ent.mp vS qB y0, Ent.row (.slice oA o.length oC) 40 4 o.length (o.flatMap Statement.enc)]) e_y0)
      exact e_all
     ·exact c39j3_
     ·first | assumption | omega
     ·assumption
     ·first | assumption | exact R39.pga_nil
     ·first | assumption | exact R39.rowsIn_nil
     ·first
       | (rw [List.append_nil P, R39.out_stm (R39.LnK.of (s := R39.rsOf (lookK M) P o) (by assumption) (by assumption) (by assumption) hf9) (R39.len1 (by assumption)) c39j1_]; exact R39.StmJ.lineO (R := .ok (0, [])) no_such_condition rfl)
       | (rw [List.append_nil P, R39.out_call (R39.LnK.of (s := R39.rsOf (lookK M) P o) (by assumption) (by assumption) (by assumption) hf9) (R39.len1 (by assumption)) hk]; exact no_such_condition)
       | (rw [List.append_nil o, R39.out_proc (R39.LnK.of (s := R39.rsOf (lookK M) P o) (by assumption) (by assumption) (by assumption) hf9) (R39.len1 (by assumption)) hk]; exact no_such_condition _ _)
       | (rw [List.append_nil o, List.append_nil P, R39.out_set (R39.LnK.of (s := R39.rsOf (lookK M) P o) (by assumption) (by assumption) (by assumption) hf9) (R39.len1 (by assumption)) hk]; exact no_such_condition.line)
       | (rw [List.append_nil o, List.append_nil P]; first | exact .zero (R39.out_idle (by assumption)) | exact .err (R39.out_repl (by assumption) (by assumption)) (by assumption) | exact .err (R39.out_scan (by assumption) (by assumption) (by assumption)) (by assumption) | exact .zero (R39.out_none (R39.LnK.of (s := R39.rsOf (lookK M) P o) (by assumption) (by assumption) (by assumption) hf9) (R39.len0 (by assumption))) | exact .err (R39.out_end (R39.LnK.of (s := R39.rsOf (lookK M) P o) (by assumption) (by assumption) (by assumption) hf9) (R39.len1 (by assumption)) hk) (by decide) | exact .err (R39.out_three (R39.LnK.of (s := R39.rsOf (lookK M) P o) (by assumption) (by assumption) (by assumption) hf9) (R39.len1 (by assumption)) hk) (by decide))
    ·refine sk_ (n_ (q_ (g_ (s_ mv_ (s_ mv_ (r_ (ixM (k := 0) (cells_ro roR) Tryd.underlying24 Ty.sz9) (r_ (ldM vS [] (cells_ro roR) Ty.sc9) ?_)))))))
     rcases R39.key_cases (ro.getD 0 []) with hk | hk | hk | hk | hk | hk | hk | hk
     ·refine JO_read (Value.tuple #[Value.func (.func 86) #[] #[], vB true]) rfl trivial (x_lookup_ok 4 (f := vS) (k := (ro.getD 0 [])) rfl rfl rfl Tryd.underlying100 (mapK_s Tryd.underlying9) Ty.ze124 (lk_hit (by exact hk))) ?_
      refine s_ mv_ (s_ (ex_ 0) (s_ (ex_ 1) (s_ av_ (s_ av_ (z_ (xk_ [0, 5, 6, 7, 10, 11, 12] ?_))))))
      refine n_ (q_ (q_ (g_ (s_ mv_ (jr_ (vB false) (z_ (n_ (iff_ (sk_ (n_ (q_ (g_ (s_ mv_ (s_ mv_ (r_ (ldN 1 [vL rowsA rows.length rowsC, vS [], vB false] Ty.ag82 Ty.sz82) (s_ mv_ ?_))))))))))))))))
      refine JO_call [r, mB] [Ent.blk r 77 [Value.map (some mB), Value.map (some qB), vL oA o.length oC], Ent.mp vS mB (M.map kvS)] [Ent.blk b2 79 [vI 0, vI 0], Ent.blk b1 82 [vL rowsA rows.length rowsC, vS [], vB false], Ent.mp vS kb [([115, 101, 116], Value.func (.func 86) #[] #[]), ([112, 114, 111, 99], Value.func (.func 87) #[] #[]), ([101, 110, 100], Value.func (.func 88) #[] #[]), ([99, 97, 108, 108], Value.func (.func 89) #[] #[]), ([106, 111, 98], Value.func (.func 90) #[] #[]), ([115, 116, 101, 112], Value.func (.func 90) #[] #[]), ([100, 100], Value.func (.func 90) #[] #[])], Ent.mp vS qB (P.map R39.procE), Ent.row (.slice oA o.length oC) 40 4 o.length (o.flatMap Statement.enc)] rfl trivial (fun _ => x_callv (first := []) (caps := []) rfl Ty.ca86 rfl) (fun _ h => (((((((h.front 6 _ rfl).front 6 _ rfl).front 6 _ rfl).front 4 _ rfl).front 4 _ rfl).front 6 _ rfl).front 6 _ rfl).keep [true, true, true, true, true, true, true] rfl) (own_mem rfl) (fun w hS => set_out r mB M (Value.map (some qB)) (vL oA o.length oC) rows rowsA rowsC [] ro roA roC w (rowsR.on hS (own_mem rfl)) (roR.on hS (own_mem rfl)) (hT.on hS (own_mem rfl)) hy_ hy_ hy_ (by exact fun i => Nat.le_trans (hf11 i) (by omega)) hy_ (hS.give (own_in rfl))) ?_
      rintro _ _ ⟨fl15, fc16, e17, rfl, rfl, hf18, hf19⟩
      refine s_ (ex_ 0) (s_ (ex_ 1) (s_ av_ (o_ (stG 2 Ty.sz79 ?_))))
      refine z_ (n_ (rt_ ?_))
      refine JX_retsD [_, _] (Value.tuple #[_, _]) Tryd.results63 (fun w h => ⟨rfl, ⟨_, rfl, load_blkN 2 [vI fl15, vI fc16] h rfl Ty.ag79 Ty.sz79 rfl⟩, trivial⟩) rfl _ (fun _ h => h.keep [true, true, false, false, true, true, true] rfl) (fun _ _ h => (hB12.back _ _ h)) (fun wx hw => ⟨0, fl15, fc16, o, oA, oC, ([] : List Statement), e17, ([] : R39.PL), ?_, ?_, R39.okN_nil, R39.pkv_nil, ?_, ?_, ?_, ?_, ?_, ?_⟩)
      ·rfl
      ·have e_y0 : ((P.map R39.procE) : List (Bytes × Value)) = ((P ++ ([] : R39.PL)).map R39.procE) := by
        exact c39j2_
       have e_all := (congrArg (fun (y0 : List (Bytes × Value)) => [Ent.blk r 77 [Value.map (some mB), Value.map (some qB), vL oA o.length oC], Ent.mp vS mB (e17.map kvS), Ent.mp vS kb [([115, 101, 116], Value.func (.func 86) #[] #[]), ([112, 114, 111, 99], Value.func (.func 87) #[] #[]), ([101, 110, 100], Value.func (.func 88) #[] #[]), ([99, 97, 108, 108], Value.func (.func 89) #[] #[]), ([106, 111, 98], Value.func (.func 90) #[] #[]), ([115, 116, 101, 112], Value.func (.func 90) #[] #[]), ([100, 100], Value.func (.func 90) #[] #[])], Ent.mp vS qB y0, Ent.row (.slice oA o.length oC) 40 4 o.length (o.flatMap Statement.enc)]) e_y0)
       exact e_all
      ·exact c39j3_
      ·first | assumption | omega
      ·assumption
      ·first | assumption | exact R39.pga_nil
      ·first | assumption | exact R39.rowsIn_nil
      ·first
        | (rw [List.append_nil P, R39.out_stm (R39.LnK.of (s := R39.rsOf (lookK M) P o) (by assumption) (by assumption) (by assumption) hf9) (R39.len1 (by assumption)) c39j1_]; exact R39.StmJ.lineO (R := .ok (0, [])) no_such_condition rfl)
        | (rw [List.append_nil P, R39.out_call (R39.LnK.of (s := R39.rsOf (lookK M) P o) (by assumption) (by assumption) (by assumption) hf9) (R39.len1 (by assumption)) hk]; exact no_such_condition)
        | (rw [List.append_nil o, R39.out_proc (R39.LnK.of (s := R39.rsOf (lookK M) P o) (by assumption) (by assumption) (by assumption) hf9) (R39.len1 (by assumption)) hk]; exact no_such_condition _ _)
        | (rw [List.append_nil o, List.append_nil P, R39.out_set (R39.LnK.of (s := R39.rsOf (lookK M) P o) (by assumption) (by assumption) (by assumption) hf9) (R39.len1 (by assumption)) hk]; exact hf18.line)
        | (rw [List.append_nil o, List.append_nil P]; first | exact .zero (R39.out_idle (by assumption)) | exact .err (R39.out_repl (by assumption) (by assumption)) (by assumption) | exact .err (R39.out_scan (by assumption) (by assumption) (by assumption)) (by assumption) | exact .zero (R39.out_none (R39.LnK.of (s := R39.rsOf (lookK M) P o) (by assumption) (by assumption) (by assumption) hf9) (R39.len0 (by assumption))) | exact .err (R39.out_end (R39.LnK.of (s := R39.rsOf (lookK M) P o) (by assumption) (by assumption) (by assumption) hf9) (R39.len1 (by assumption)) hk) (by decide) | exact .err (R39.out_three (R39.LnK.of (s := R39.rsOf (lookK M) P o) (by assumption) (by assumption) (by assumption) hf9) (R39.len1 (by assumption)) hk) (by decide))
     ·refine JO_read (Value.tuple #[Value.func (.func 87) #[] #[], vB true]) rfl trivial (x_lookup_ok 4 (f := vS) (k := (ro.getD 0 [])) rfl rfl rfl Tryd.underlying100 (mapK_s Tryd.underlying9) Ty.ze124 (lk_ne c39j0_ (lk_hit (by exact hk)))) ?_
      refine s_ mv_ (s_ (ex_ 0) (s_ (ex_ 1) (s_ av_ (s_ av_ (z_ (xk_ [0, 5, 6, 7, 10, 11, 12] ?_))))))
      refine n_ (q_ (q_ (g_ (s_ mv_ (jr_ (vB false) (z_ (n_ (iff_ (sk_ (n_ (q_ (g_ (s_ mv_ (s_ mv_ (r_ (ldN 1 [vL rowsA rows.length rowsC, vS [], vB false] Ty.ag82 Ty.sz82) (s_ mv_ ?_))))))))))))))))
      refine JO_callB [r, qB] [Ent.blk r 77 [Value.map (some mB), Value.map (some qB), vL oA o.length oC], Ent.mp vS qB (P.map R39.procE)] [Ent.blk b2 79 [vI 0, vI 0], Ent.blk b1 82 [vL rowsA rows.length rowsC, vS [], vB false], Ent.mp vS mB (M.map kvS), Ent.mp vS kb [([115, 101, 116], Value.func (.func 86) #[] #[]), ([112, 114, 111, 99], Value.func (.func 87) #[] #[]), ([101, 110, 100], Value.func (.func 88) #[] #[]), ([99, 97, 108, 108], Value.func (.func 89) #[] #[]), ([106, 111, 98], Value.func (.func 90) #[] #[]), ([115, 116, 101, 112], Value.func (.func 90) #[] #[]), ([100, 100], Value.func (.func 90) #[] #[])], Ent.row (.slice oA o.length oC) 40 4 o.length (o.flatMap Statement.enc)] rfl trivial (fun _ => x_callv (first := []) (caps := []) rfl Ty.ca87 rfl) (fun _ h => (((((((h.front 6 _ rfl).front 5 _ rfl).front 5 _ rfl).front 4 _ rfl).front 4 _ rfl).front 6 _ rfl).front 6 _ rfl).keep [true, true, true, true, true, true, true] rfl) (own_mem rfl) (fun w hS => proc_out r (Value.map (some mB)) qB P (vL oA o.length oC) rows rowsA rowsC [] ro roA roC w (rowsR.on hS (own_mem rfl)) (roR.on hS (own_mem rfl)) (hT.on hS (own_mem rfl)) hy_ hy_ hy_ hy_ hy_ (by exact fun i => Nat.le_trans (hf11 i) (by omega)) hy_ (hS.give (own_in rfl))) ?_
      rintro wc _ _ wbhB27 ⟨n20, fl21, fc22, NP23, rfl, rfl, kf28, hf24, hf25, hf26⟩ hc0 hB27
      have rowsR := rowsR.again hB27
      have roR0 := roR0.againF hB27
      have roR := roR.again hB27
      have hT := hT.again hB27
      have PN := PN.again hB27
      have kf280 := kf28.mono (lown_rangeAF (w00 := w) hc0 (hB12.back _ _ hc0).fr.size)
      have kf28 := kf28.mono (lown_rangeA hc0)
      refine s_ (ex_ 0) (s_ (ex_ 1) (s_ av_ (o_ (stG 2 Ty.sz79 ?_))))
      refine z_ (n_ (rt_ ?_))
      refine JX_retsD [_, _] (Value.tuple #[_, _]) Tryd.results63 (fun w h => ⟨rfl, ⟨_, rfl, load_blkN 2 [vI fl21, vI fc22] h rfl Ty.ag79 Ty.sz79 rfl⟩, trivial⟩) rfl [Ent.blk r 77 [Value.map (some mB), Value.map (some qB), vL oA o.length oC], Ent.mp vS mB (M.map kvS), Ent.mp vS kb [([115, 101, 116], Value.func (.func 86) #[] #[]), ([112, 114, 111, 99], Value.func (.func 87) #[] #[]), ([101, 110, 100], Value.func (.func 88) #[] #[]), ([99, 97, 108, 108], Value.func (.func 89) #[] #[]), ([106, 111, 98], Value.func (.func 90) #[] #[]), ([115, 116, 101, 112], Value.func (.func 90) #[] #[]), ([100, 100], Value.func (.func 90) #[] #[])], Ent.mp vS qB ((P ++ NP23).map R39.procE), Ent.row (.slice oA o.length oC) 40 4 o.length (o.flatMap Statement.enc)] (fun _ h => (((((h.front 6 _ rfl).front 2 _ rfl).front 6 _ rfl).front 6 _ rfl).front 4 _ rfl).keep [true, true, true, true, true, false, false] rfl) (fun _ _ h => (hB12.back _ _ (hB27.back _ _ h))) (fun wx hw => ⟨n20, fl21, fc22, o, oA, oC, ([] : List Statement), M, NP23, ?_, ?_, R39.okN_nil, (kf280.againF ((((((hw.front 6 _ rfl).front 2 _ rfl).front 6 _ rfl).front 6 _ rfl).front 4 _ rfl).keep [true, true, true, true, true, false, false] rfl)), ?_, ?_, ?_, ?_, ?_, ?_⟩)
      ·rfl
      ·rfl
      ·exact c39j3_
      ·first | assumption | omega
      ·assumption
      ·first | assumption | exact R39.pga_nil
      ·first | assumption | exact R39.rowsIn_nil
      ·first
        | (rw [List.append_nil P, R39.out_stm (R39.LnK.of (s := R39.rsOf (lookK M) P o) (by assumption) (by assumption) (by assumption) hf9) (R39.len1 (by assumption)) c39j1_]; exact R39.StmJ.lineO (R := .ok (0, [])) no_such_condition rfl)
        | (rw [List.append_nil P, R39.out_call (R39.LnK.of (s := R39.rsOf (lookK M) P o) (by assumption) (by assumption) (by assumption) hf9) (R39.len1 (by assumption)) hk]; exact no_such_condition)
        | (rw [List.append_nil o, R39.out_proc (R39.LnK.of (s := R39.rsOf (lookK M) P o) (by assumption) (by assumption) (by assumption) hf9) (R39.len1 (by assumption)) hk]; exact hf26 _ _)
        | (rw [List.append_nil o, List.append_nil P, R39.out_set (R39.LnK.of (s := R39.rsOf (lookK M) P o) (by assumption) (by assumption) (by assumption) hf9) (R39.len1 (by assumption)) hk]; exact no_such_condition.line)
        | (rw [List.append_nil o, List.append_nil P]; first | exact .zero (R39.out_idle (by assumption)) | exact .err (R39.out_repl (by assumption) (by assumption)) (by assumption) | exact .err (R39.out_scan (by assumption) (by assumption) (by assumption)) (by assumption) | exact .zero (R39.out_none (R39.LnK.of (s := R39.rsOf (lookK M) P o) (by assumption) (by assumption) (by assumption) hf9) (R39.len0 (by assumption))) | exact .err (R39.out_end (R39.LnK.of (s := R39.rsOf (lookK M) P o) (by assumption) (by assumption) (by assumption) hf9) (R39.len1 (by assumption)) hk) (by decide) | exact .err (R39.out_three (R39.LnK.of (s := R39.rsOf (lookK M) P o) (by assumption) (by assumption) (by assumption) hf9) (R39.len1 (by assumption)) hk) (by decide))
     ·refine JO_read (Value.tuple #[Value.func (.func 88) #[] #[], vB true]) rfl trivial (x_lookup_ok 4 (f := vS) (k := (ro.getD 0 [])) rfl rfl rfl Tryd.underlying100 (mapK_s Tryd.underlying9) Ty.ze124 (lk_ne c39j0_ (lk_ne c39j0_ (lk_hit (by exact hk))))) ?_
      refine s_ mv_ (s_ (ex_ 0) (s_ (ex_ 1) (s_ av_ (s_ av_ (z_ (xk_ [0, 5, 6, 7, 10, 11, 12] ?_))))))
      refine n_ (q_ (q_ (g_ (s_ mv_ (jr_ (vB false) (z_ (n_ (iff_ (sk_ (n_ (q_ (g_ (s_ mv_ (s_ mv_ (r_ (ldN 1 [vL rowsA rows.length rowsC, vS [], vB false] Ty.ag82 Ty.sz82) (s_ mv_ (c0 (x_callv (first := []) (caps := []) rfl Ty.ca88 rfl) (fun w hS => f88_ok _ rows _ _ [] _ ro roA roC w (rno rowsR hS) (rno roR hS) hy_) ?_)))))))))))))))))
      refine s_ (ex_ 0) (s_ (ex_ 1) (s_ av_ (o_ (stG 0 Ty.sz79 ?_))))
      refine z_ (n_ (rt_ ?_))
      refine JX_retsD [_, _] (Value.tuple #[_, _]) Tryd.results63 (fun w h => ⟨rfl, ⟨_, rfl, load_blkN 0 [vI ((rows.getD 0 default).number), vI 9] h rfl Ty.ag79 Ty.sz79 rfl⟩, trivial⟩) rfl _ (fun _ h => h.keep [false, false, true, true, true, true, true] rfl) (fun _ _ h => (hB12.back _ _ h)) (fun wx hw => ⟨0, (rows.getD 0 default).number, 9, o, oA, oC, ([] : List Statement), M, ([] : R39.PL), ?_, ?_, R39.okN_nil, R39.pkv_nil, ?_, ?_, ?_, ?_, ?_, ?_⟩)
      ·rfl
      ·have e_y0 : ((P.map R39.procE) : List (Bytes × Value)) = ((P ++ ([] : R39.PL)).map R39.procE) := by
        exact c39j2_
       have e_all := (congrArg (fun (y0 : List (Bytes × Value)) => [Ent.blk r 77 [Value.map (some mB), Value.map (some qB), vL oA o.length oC], Ent.mp vS mB (M.map kvS), Ent.mp vS kb [([115, 101, 116], Value.func (.func 86) #[] #[]), ([112, 114, 111, 99], Value.func (.func 87) #[] #[]), ([101, 110, 100], Value.func (.func 88) #[] #[]), ([99, 97, 108, 108], Value.func (.func 89) #[] #[]), ([106, 111, 98], Value.func (.func 90) #[] #[]), ([115, 116, 101, 112], Value.func (.func 90) #[] #[]), ([100, 100], Value.func (.func 90) #[] #[])], Ent.mp vS qB y0, Ent.row (.slice oA o.length oC) 40 4 o.length (o.flatMap Statement.enc)]) e_y0)
       exact e_all
      ·exact c39j3_
      ·first | assumption | omega
      ·assumption
      ·first | assumption | exact R39.pga_nil
      ·first | assumption | exact R39.rowsIn_nil
      ·first
        | (rw [List.append_nil P, R39.out_stm (R39.LnK.of (s := R39.rsOf (lookK M) P o) (by assumption) (by assumption) (by assumption) hf9) (R39.len1 (by assumption)) c39j1_]; exact R39.StmJ.lineO (R := .ok (0, [])) no_such_condition rfl)
        | (rw [List.append_nil P, R39.out_call (R39.LnK.of (s := R39.rsOf (lookK M) P o) (by assumption) (by assumption) (by assumption) hf9) (R39.len1 (by assumption)) hk]; exact no_such_condition)
        | (rw [List.append_nil o, R39.out_proc (R39.LnK.of (s := R39.rsOf (lookK M) P o) (by assumption) (by assumption) (by assumption) hf9) (R39.len1 (by assumption)) hk]; exact no_such_condition _ _)
        | (rw [List.append_nil o, List.append_nil P, R39.out_set (R39.LnK.of (s := R39.rsOf (lookK M) P o) (by assumption) (by assumption) (by assumption) hf9) (R39.len1 (by assumption)) hk]; exact no_such_condition.line)
        | (rw [List.append_nil o, List.append_nil P]; first | exact .zero (R39.out_idle (by assumption)) | exact .err (R39.out_repl (by assumption) (by assumption)) (by assumption) | exact .err (R39.out_scan (by assumption) (by assumption) (by assumption)) (by assumption) | exact .zero (R39.out_none (R39.LnK.of (s := R39.rsOf (lookK M) P o) (by assumption) (by assumption) (by assumption) hf9) (R39.len0 (by assumption))) | exact .err (R39.out_end (R39.LnK.of (s := R39.rsOf (lookK M) P o) (by assumption) (by assumption) (by assumption) hf9) (R39.len1 (by assumption)) hk) (by decide) | exact .err (R39.out_three (R39.LnK.of (s := R39.rsOf (lookK M) P o) (by assumption) (by assumption) (by assumption) hf9) (R39.len1 (by assumption)) hk) (by decide))
     ·refine JO_read (Value.tuple #[Value.func (.func 89) #[] #[], vB true]) rfl trivial (x_lookup_ok 4 (f := vS) (k := (ro.getD 0 [])) rfl rfl rfl Tryd.underlying100 (mapK_s Tryd.underlying9) Ty.ze124 (lk_ne c39j0_ (lk_ne c39j0_ (lk_ne c39j0_ (lk_hit (by exact hk)))))) ?_
      refine s_ mv_ (s_ (ex_ 0) (s_ (ex_ 1) (s_ av_ (s_ av_ (z_ (xk_ [0, 5, 6, 7, 10, 11, 12] ?_))))))
      refine n_ (q_ (q_ (g_ (s_ mv_ (jr_ (vB false) (z_ (n_ (iff_ (sk_ (n_ (q_ (g_ (s_ mv_ (s_ mv_ (r_ (ldN 1 [vL rowsA rows.length rowsC, vS [], vB false] Ty.ag82 Ty.sz82) (s_ mv_ ?_))))))))))))))))
      refine JO_callB (Lown [Ent.blk r 77 [Value.map (some mB), Value.map (some qB), vL oA o.length oC], Ent.mp vS mB (M.map kvS), Ent.mp vS qB (P.map R39.procE), Ent.row (.slice oA o.length oC) 40 4 o.length (o.flatMap Statement.enc)]) [Ent.blk r 77 [Value.map (some mB), Value.map (some qB), vL oA o.length oC], Ent.mp vS mB (M.map kvS), Ent.mp vS qB (P.map R39.procE), Ent.row (.slice oA o.length oC) 40 4 o.length (o.flatMap Statement.enc)] [Ent.blk b2 79 [vI 0, vI 0], Ent.blk b1 82 [vL rowsA rows.length rowsC, vS [], vB false], Ent.mp vS kb [([115, 101, 116], Value.func (.func 86) #[] #[]), ([112, 114, 111, 99], Value.func (.func 87) #[] #[]), ([101, 110, 100], Value.func (.func 88) #[] #[]), ([99, 97, 108, 108], Value.func (.func 89) #[] #[]), ([106, 111, 98], Value.func (.func 90) #[] #[]), ([115, 116, 101, 112], Value.func (.func 90) #[] #[]), ([100, 100], Value.func (.func 90) #[] #[])]] rfl trivial (fun _ => x_callv (first := []) (caps := []) rfl Ty.ca89 rfl) (fun _ h => (((((((h.front 4 _ rfl).front 2 _ rfl).front 2 _ rfl).front 6 _ rfl).front 6 _ rfl).front 6 _ rfl).front 6 _ rfl).keep [true, true, true, true, true, true, true] rfl) lown_mem (fun w hS => call_out r mB M qB P o oA oC o.length rows rowsA rowsC [] ro roA roC w (rowsR.on hS lown_mem) (roR.on hS lown_mem) (PN.on hS lown_mem) (hT.on hS lown_mem) hy_ hy_ hy_ hy_ hy_ hy_ (by exact fun i => Nat.le_trans (hf11 i) (by omega)) hy_ hy_ hy_ (hS.give lown_in)) ?_
      rintro wc _ _ wbhB38 ⟨fl29, fc30, y31, yA32, yC33, N34, rfl, rfl, kf39, hf35, hf36, hf37⟩ hc0 hB38
      have rowsR := rowsR.again hB38
      have roR0 := roR0.againF hB38
      have roR := roR.again hB38
      have hT := hT.again hB38
      have PN := PN.again hB38
      have kf390 := kf39.mono (lown_rangeAF (w00 := w) hc0 (hB12.back _ _ hc0).fr.size)
      have kf39 := kf39.mono (lown_rangeA hc0)
      refine s_ (ex_ 0) (s_ (ex_ 1) (s_ av_ (o_ (stG 4 Ty.sz79 ?_))))
      refine z_ (n_ (rt_ ?_))
      refine JX_retsD [_, _] (Value.tuple #[_, _]) Tryd.results63 (fun w h => ⟨rfl, ⟨_, rfl, load_blkN 4 [vI fl29, vI fc30] h rfl Ty.ag79 Ty.sz79 rfl⟩, trivial⟩) rfl [Ent.blk r 77 [Value.map (some mB), Value.map (some qB), vL yA32 y31.length yC33], Ent.mp vS mB (M.map kvS), Ent.mp vS kb [([115, 101, 116], Value.func (.func 86) #[] #[]), ([112, 114, 111, 99], Value.func (.func 87) #[] #[]), ([101, 110, 100], Value.func (.func 88) #[] #[]), ([99, 97, 108, 108], Value.func (.func 89) #[] #[]), ([106, 111, 98], Value.func (.func 90) #[] #[]), ([115, 116, 101, 112], Value.func (.func 90) #[] #[]), ([100, 100], Value.func (.func 90) #[] #[])], Ent.mp vS qB (P.map R39.procE), Ent.row (.slice yA32 y31.length yC33) 40 4 y31.length (y31.flatMap Statement.enc)] (fun _ h => (((((h.front 3 _ rfl).front 3 _ rfl).front 6 _ rfl).front 4 _ rfl).front 4 _ rfl).keep [true, true, true, true, true, false, false] rfl) (fun _ _ h => (hB12.back _ _ (hB38.back _ _ h))) (fun wx hw => ⟨0, fl29, fc30, y31, yA32, yC33, N34, M, ([] : R39.PL), ?_, ?_, (kf390.againF ((((((hw.front 3 _ rfl).front 3 _ rfl).front 6 _ rfl).front 4 _ rfl).front 4 _ rfl).keep [true, true, true, true, true, false, false] rfl)), R39.pkv_nil, ?_, ?_, ?_, ?_, ?_, ?_⟩)
      ·rfl
      ·have e_y0 : ((P.map R39.procE) : List (Bytes × Value)) = ((P ++ ([] : R39.PL)).map R39.procE) := by
        exact c39j2_
       have e_all := (congrArg (fun (y0 : List (Bytes × Value)) => [Ent.blk r 77 [Value.map (some mB), Value.map (some qB), vL yA32 y31.length yC33], Ent.mp vS mB (M.map kvS), Ent.mp vS kb [([115, 101, 116], Value.func (.func 86) #[] #[]), ([112, 114, 111, 99], Value.func (.func 87) #[] #[]), ([101, 110, 100], Value.func (.func 88) #[] #[]), ([99, 97, 108, 108], Value.func (.func 89) #[] #[]), ([106, 111, 98], Value.func (.func 90) #[] #[]), ([115, 116, 101, 112], Value.func (.func 90) #[] #[]), ([100, 100], Value.func (.func 90) #[] #[])], Ent.mp vS qB y0, Ent.row (.slice yA32 y31.length yC33) 40 4 y31.length (y31.flatMap Statement.enc)]) e_y0)
       exact e_all
      ·exact c39j3_
      ·first | assumption | omega
      ·assumption
      ·first | assumption | exact R39.pga_nil
      ·first | assumption | exact R39.rowsIn_nil
      ·first
        | (rw [List.append_nil P, R39.out_stm (R39.LnK.of (s := R39.rsOf (lookK M) P o) (by assumption) (by assumption) (by assumption) hf9) (R39.len1 (by assumption)) c39j1_]; exact R39.StmJ.lineO (R := .ok (0, [])) no_such_condition rfl)
        | (rw [List.append_nil P, R39.out_call (R39.LnK.of (s := R39.rsOf (lookK M) P o) (by assumption) (by assumption) (by assumption) hf9) (R39.len1 (by assumption)) hk]; exact hf37)
        | (rw [List.append_nil o, R39.out_proc (R39.LnK.of (s := R39.rsOf (lookK M) P o) (by assumption) (by assumption) (by assumption) hf9) (R39.len1 (by assumption)) hk]; exact no_such_condition _ _)
        | (rw [List.append_nil o, List.append_nil P, R39.out_set (R39.LnK.of (s := R39.rsOf (lookK M) P o) (by assumption) (by assumption) (by assumption) hf9) (R39.len1 (by assumption)) hk]; exact no_such_condition.line)
        | (rw [List.append_nil o, List.append_nil P]; first | exact .zero (R39.out_idle (by assumption)) | exact .err (R39.out_repl (by assumption) (by assumption)) (by assumption) | exact .err (R39.out_scan (by assumption) (by assumption) (by assumption)) (by assumption) | exact .zero (R39.out_none (R39.LnK.of (s := R39.rsOf (lookK M) P o) (by assumption) (by assumption) (by assumption) hf9) (R39.len0 (by assumption))) | exact .err (R39.out_end (R39.LnK.of (s := R39.rsOf (lookK M) P o) (by assumption) (by assumption) (by assumption) hf9) (R39.len1 (by assumption)) hk) (by decide) | exact .err (R39.out_three (R39.LnK.of (s := R39.rsOf (lookK M) P o) (by assumption) (by assumption) (by assumption) hf9) (R39.len1 (by assumption)) hk) (by decide))
     ·refine JO_read (Value.tuple #[Value.func (.func 90) #[] #[], vB true]) rfl trivial (x_lookup_ok 4 (f := vS) (k := (ro.getD 0 [])) rfl rfl rfl Tryd.underlying100 (mapK_s Tryd.underlying9) Ty.ze124 (lk_ne c39j0_ (lk_ne c39j0_ (lk_ne c39j0_ (lk_ne c39j0_ (lk_hit (by exact hk))))))) ?_
      refine s_ mv_ (s_ (ex_ 0) (s_ (ex_ 1) (s_ av_ (s_ av_ (z_ (xk_ [0, 5, 6, 7, 10, 11, 12] ?_))))))
      refine n_ (q_ (q_ (g_ (s_ mv_ (jr_ (vB false) (z_ (n_ (iff_ (sk_ (n_ (q_ (g_ (s_ mv_ (s_ mv_ (r_ (ldN 1 [vL rowsA rows.length rowsC, vS [], vB false] Ty.ag82 Ty.sz82) (s_ mv_ ?_))))))))))))))))
      refine JO_callB (Lown [Ent.blk r 77 [Value.map (some mB), Value.map (some qB), vL oA o.length oC], Ent.row (.slice oA o.length oC) 40 4 o.length (o.flatMap Statement.enc)]) [Ent.blk r 77 [Value.map (some mB), Value.map (some qB), vL oA o.length oC], Ent.row (.slice oA o.length oC) 40 4 o.length (o.flatMap Statement.enc)] [Ent.blk b2 79 [vI 0, vI 0], Ent.blk b1 82 [vL rowsA rows.length rowsC, vS [], vB false], Ent.mp vS mB (M.map kvS), Ent.mp vS kb [([115, 101, 116], Value.func (.func 86) #[] #[]), ([112, 114, 111, 99], Value.func (.func 87) #[] #[]), ([101, 110, 100], Value.func (.func 88) #[] #[]), ([99, 97, 108, 108], Value.func (.func 89) #[] #[]), ([106, 111, 98], Value.func (.func 90) #[] #[]), ([115, 116, 101, 112], Value.func (.func 90) #[] #[]), ([100, 100], Value.func (.func 90) #[] #[])], Ent.mp vS qB (P.map R39.procE)] rfl trivial (fun _ => x_callv (first := []) (caps := []) rfl Ty.ca90 rfl) (fun _ h => (((((((h.front 5 _ rfl).front 5 _ rfl).front 5 _ rfl).front 4 _ rfl).front 4 _ rfl).front 6 _ rfl).front 6 _ rfl).keep [true, true, true, true, true, true, true] rfl) lown_mem (fun w hS => f90_ok r (Value.map (some mB)) (Value.map (some qB)) o oA oC o.length rows rowsA rowsC [] false ro roA roC w (rowsR.on hS lown_mem) (roR.on hS lown_mem) hy_ hy_ hy_ hy_ hy_ hy_ hy_ (hS.give lown_in)) ?_
      rintro wc _ _ wbhB49 ⟨n40, fl41, fc42, y43, yA44, yC45, rl, rlA, rlC, rfl, rfl, rlR, rlL, hf46, hf47, hf48⟩ hc0 hB49
      have rowsR := rowsR.again hB49
      have roR0 := roR0.againF hB49
      have roR := roR.again hB49
      have hT := hT.again hB49
      have PN := PN.again hB49
      have rlR0 := rlR.mono (lown_rangeAF (w00 := w) hc0 (hB12.back _ _ hc0).fr.size)
      have rlR := rlR.mono (lown_rangeA hc0)
      try simp only [List.length_cons, List.length_nil, Nat.zero_add, Nat.reduceAdd] at hf46
      refine s_ (ex_ 0) (s_ (ex_ 1) (s_ av_ (o_ (stG 2 Ty.sz79 ?_))))
      refine z_ (n_ (rt_ ?_))
      refine JX_retsD [_, _] (Value.tuple #[_, _]) Tryd.results63 (fun w h => ⟨rfl, ⟨_, rfl, load_blkN 2 [vI fl41, vI fc42] h rfl Ty.ag79 Ty.sz79 rfl⟩, trivial⟩) rfl [Ent.blk r 77 [Value.map (some mB), Value.map (some qB), vL yA44 y43.length yC45], Ent.mp vS mB (M.map kvS), Ent.mp vS kb [([115, 101, 116], Value.func (.func 86) #[] #[]), ([112, 114, 111, 99], Value.func (.func 87) #[] #[]), ([101, 110, 100], Value.func (.func 88) #[] #[]), ([99, 97, 108, 108], Value.func (.func 89) #[] #[]), ([106, 111, 98], Value.func (.func 90) #[] #[]), ([115, 116, 101, 112], Value.func (.func 90) #[] #[]), ([100, 100], Value.func (.func 90) #[] #[])], Ent.mp vS qB (P.map R39.procE), Ent.row (.slice yA44 y43.length yC45) 40 4 y43.length (y43.flatMap Statement.enc)] (fun _ h => (((((h.front 1 _ rfl).front 6 _ rfl).front 6 _ rfl).front 6 _ rfl).front 4 _ rfl).keep [true, true, true, true, true, false, false] rfl) (fun _ _ h => (hB12.back _ _ (hB49.back _ _ h))) (fun wx hw => ⟨n40, fl41, fc42, y43, yA44, yC45, (y43.drop o.length), M, ([] : R39.PL), ?_, ?_, (R39.StmJ.kept hf46 (Kp.and (roR0.againF ((((((hw.front 1 _ rfl).front 6 _ rfl).front 6 _ rfl).front 6 _ rfl).front 4 _ rfl).keep [true, true, true, true, true, false, false] rfl)).kp (Kp.and (rlR0.againF ((((((hw.front 1 _ rfl).front 6 _ rfl).front 6 _ rfl).front 6 _ rfl).front 4 _ rfl).keep [true, true, true, true, true, false, false] rfl)).kp (Kp.pure (by first | assumption | exact Nat.zero_le _))))), R39.pkv_nil, ?_, ?_, ?_, ?_, ?_, ?_⟩)
      ·rfl
      ·have e_y0 : ((P.map R39.procE) : List (Bytes × Value)) = ((P ++ ([] : R39.PL)).map R39.procE) := by
        exact c39j2_
       have e_all := (congrArg (fun (y0 : List (Bytes × Value)) => [Ent.blk r 77 [Value.map (some mB), Value.map (some qB), vL yA44 y43.length yC45], Ent.mp vS mB (M.map kvS), Ent.mp vS kb [([115, 101, 116], Value.func (.func 86) #[] #[]), ([112, 114, 111, 99], Value.func (.func 87) #[] #[]), ([101, 110, 100], Value.func (.func 88) #[] #[]), ([99, 97, 108, 108], Value.func (.func 89) #[] #[]), ([106, 111, 98], Value.func (.func 90) #[] #[]), ([115, 116, 101, 112], Value.func (.func 90) #[] #[]), ([100, 100], Value.func (.func 90) #[] #[])], Ent.mp vS qB y0, Ent.row (.slice yA44 y43.length yC45) 40 4 y43.length (y43.flatMap Statement.enc)]) e_y0)
       exact e_all
      ·first | assumption | exact (List.append_nil o).symm | exact hf46.new
      ·first | assumption | omega
      ·assumption
      ·first | assumption | exact R39.pga_nil
      ·first | assumption | exact R39.rowsIn_nil
      ·first
        | (rw [List.append_nil P, R39.out_stm (R39.LnK.of (s := R39.rsOf (lookK M) P o) (by assumption) (by assumption) (by assumption) hf9) (R39.len1 (by assumption)) c39j1_]; exact R39.StmJ.lineO (R := .ok (0, [])) hf46 rfl)
        | (rw [List.append_nil P, R39.out_call (R39.LnK.of (s := R39.rsOf (lookK M) P o) (by assumption) (by assumption) (by assumption) hf9) (R39.len1 (by assumption)) hk]; exact no_such_condition)
        | (rw [List.append_nil o, R39.out_proc (R39.LnK.of (s := R39.rsOf (lookK M) P o) (by assumption) (by assumption) (by assumption) hf9) (R39.len1 (by assumption)) hk]; exact no_such_condition _ _)
        | (rw [List.append_nil o, List.append_nil P, R39.out_set (R39.LnK.of (s := R39.rsOf (lookK M) P o) (by assumption) (by assumption) (by assumption) hf9) (R39.len1 (by assumption)) hk]; exact no_such_condition.line)
        | (rw [List.append_nil o, List.append_nil P]; first | exact .zero (R39.out_idle (by assumption)) | exact .err (R39.out_repl (by assumption) (by assumption)) (by assumption) | exact .err (R39.out_scan (by assumption) (by assumption) (by assumption)) (by assumption) | exact .zero (R39.out_none (R39.LnK.of (s := R39.rsOf (lookK M) P o) (by assumption) (by assumption) (by assumption) hf9) (R39.len0 (by assumption))) | exact .err (R39.out_end (R39.LnK.of (s := R39.rsOf (lookK M) P o) (by assumption) (by assumption) (by assumption) hf9) (R39.len1 (by assumption)) hk) (by decide) | exact .err (R39.out_three (R39.LnK.of (s := R39.rsOf (lookK M) P o) (by assumption) (by assumption) (by assumption) hf9) (R39.len1 (by assumption)) hk) (by decide))
     ·refine JO_read (Value.tuple #[Value.func (.func 90) #[] #[], vB true]) rfl trivial (x_lookup_ok 4 (f := vS) (k := (ro.getD 0 [])) rfl rfl rfl Tryd.underlying100 (mapK_s Tryd.underlying9) Ty.ze124 (lk_ne c39j0_ (lk_ne c39j0_ (lk_ne c39j0_ (lk_ne c39j0_ (lk_ne c39j0_ (lk_hit (by exact hk)))))))) ?_
      refine s_ mv_ (s_ (ex_ 0) (s_ (ex_ 1) (s_ av_ (s_ av_ (z_ (xk_ [0, 5, 6, 7, 10, 11, 12] ?_))))))
      refine n_ (q_ (q_ (g_ (s_ mv_ (jr_ (vB false) (z_ (n_ (iff_ (sk_ (n_ (q_ (g_ (s_ mv_ (s_ mv_ (r_ (ldN 1 [vL rowsA rows.length rowsC, vS [], vB false] Ty.ag82 Ty.sz82) (s_ mv_ ?_))))))))))))))))
      refine JO_callB (Lown [Ent.blk r 77 [Value.map (some mB), Value.map (some qB), vL oA o.length oC], Ent.row (.slice oA o.length oC) 40 4 o.length (o.flatMap Statement.enc)]) [Ent.blk r 77 [Value.map (some mB), Value.map (some qB), vL oA o.length oC], Ent.row (.slice oA o.length oC) 40 4 o.length (o.flatMap Statement.enc)] [Ent.blk b2 79 [vI 0, vI 0], Ent.blk b1 82 [vL rowsA rows.length rowsC, vS [], vB false], Ent.mp vS mB (M.map kvS), Ent.mp vS kb [([115, 101, 116], Value.func (.func 86) #[] #[]), ([112, 114, 111, 99], Value.func (.func 87) #[] #[]), ([101, 110, 100], Value.func (.func 88) #[] #[]), ([99, 97, 108, 108], Value.func (.func 89) #[] #[]), ([106, 111, 98], Value.func (.func 90) #[] #[]), ([115, 116, 101, 112], Value.func (.func 90) #[] #[]), ([100, 100], Value.func (.func 90) #[] #[])], Ent.mp vS qB (P.map R39.procE)] rfl trivial (fun _ => x_callv (first := []) (caps := []) rfl Ty.ca90 rfl) (fun _ h => (((((((h.front 5 _ rfl).front 5 _ rfl).front 5 _ rfl).front 4 _ rfl).front 4 _ rfl).front 6 _ rfl).front 6 _ rfl).keep [true, true, true, true, true, true, true] rfl) lown_mem (fun w hS => f90_ok r (Value.map (some mB)) (Value.map (some qB)) o oA oC o.length rows rowsA rowsC [] false ro roA roC w (rowsR.on hS lown_mem) (roR.on hS lown_mem) hy_ hy_ hy_ hy_ hy_ hy_ hy_ (hS.give lown_in)) ?_
      rintro wc _ _ wbhB60 ⟨n50, fl51, fc52, y53, yA54, yC55, rl56, rl56A, rl56C, rfl, rfl, rl56R, rl56L, hf57, hf58, hf59⟩ hc0 hB60
      have rowsR := rowsR.again hB60
      have roR0 := roR0.againF hB60
      have roR := roR.again hB60
      have hT := hT.again hB60
      have PN := PN.again hB60
      have rl56R0 := rl56R.mono (lown_rangeAF (w00 := w) hc0 (hB12.back _ _ hc0).fr.size)
      have rl56R := rl56R.mono (lown_rangeA hc0)
      try simp only [List.length_cons, List.length_nil, Nat.zero_add, Nat.reduceAdd] at hf57
      refine s_ (ex_ 0) (s_ (ex_ 1) (s_ av_ (o_ (stG 2 Ty.sz79 ?_))))
      refine z_ (n_ (rt_ ?_))
      refine JX_retsD [_, _] (Value.tuple #[_, _]) Tryd.results63 (fun w h => ⟨rfl, ⟨_, rfl, load_blkN 2 [vI fl51, vI fc52] h rfl Ty.ag79 Ty.sz79 rfl⟩, trivial⟩) rfl [Ent.blk r 77 [Value.map (some mB), Value.map (some qB), vL yA54 y53.length yC55], Ent.mp vS mB (M.map kvS), Ent.mp vS kb [([115, 101, 116], Value.func (.func 86) #[] #[]), ([112, 114, 111, 99], Value.func (.func 87) #[] #[]), ([101, 110, 100], Value.func (.func 88) #[] #[]), ([99, 97, 108, 108], Value.func (.func 89) #[] #[]), ([106, 111, 98], Value.func (.func 90) #[] #[]), ([115, 116, 101, 112], Value.func (.func 90) #[] #[]), ([100, 100], Value.func (.func 90) #[] #[])], Ent.mp vS qB (P.map R39.procE), Ent.row (.slice yA54 y53.length yC55) 40 4 y53.length (y53.flatMap Statement.enc)] (fun _ h => (((((h.front 1 _ rfl).front 6 _ rfl).front 6 _ rfl).front 6 _ rfl).front 4 _ rfl).keep [true, true, true, true, true, false, false] rfl) (fun _ _ h => (hB12.back _ _ (hB60.back _ _ h))) (fun wx hw => ⟨n50, fl51, fc52, y53, yA54, yC55, (y53.drop o.length), M, ([] : R39.PL), ?_, ?_, (R39.StmJ.kept hf57 (Kp.and (roR0.againF ((((((hw.front 1 _ rfl).front 6 _ rfl).front 6 _ rfl).front 6 _ rfl).front 4 _ rfl).keep [true, true, true, true, true, false, false] rfl)).kp (Kp.and (rl56R0.againF ((((((hw.front 1 _ rfl).front 6 _ rfl).front 6 _ rfl).front 6 _ rfl).front 4 _ rfl).keep [true, true, true, true, true, false, false] rfl)).kp (Kp.pure (by first | assumption | exact Nat.zero_le _))))), R39.pkv_nil, ?_, ?_, ?_, ?_, ?_, ?_⟩)
      ·rfl
      ·have e_y0 : ((P.map R39.procE) : List (Bytes × Value)) = ((P ++ ([] : R39.PL)).map R39.procE) := by
        exact c39j2_
       have e_all := (congrArg (fun (y0 : List (Bytes × Value)) => [Ent.blk r 77 [Value.map (some mB), Value.map (some qB), vL yA54 y53.length yC55], Ent.mp vS mB (M.map kvS), Ent.mp vS kb [([115, 101, 116], Value.func (.func 86) #[] #[]), ([112, 114, 111, 99], Value.func (.func 87) #[] #[]), ([101, 110, 100], Value.func (.func 88) #[] #[]), ([99, 97, 108, 108], Value.func (.func 89) #[] #[]), ([106, 111, 98], Value.func (.func 90) #[] #[]), ([115, 116, 101, 112], Value.func (.func 90) #[] #[]), ([100, 100], Value.func (.func 90) #[] #[])], Ent.mp vS qB y0, Ent.row (.slice yA54 y53.length yC55) 40 4 y53.length (y53.flatMap Statement.enc)]) e_y0)
       exact e_all
      ·first | assumption | exact (List.append_nil o).symm | exact hf57.new
      ·first | assumption | omega
      ·assumption
      ·first | assumption | exact R39.pga_nil
      ·first | assumption | exact R39.rowsIn_nil
      ·first
        | (rw [List.append_nil P, R39.out_stm (R39.LnK.of (s := R39.rsOf (lookK M) P o) (by assumption) (by assumption) (by assumption) hf9) (R39.len1 (by assumption)) c39j1_]; exact R39.StmJ.lineO (R := .ok (0, [])) hf57 rfl)
        | (rw [List.append_nil P, R39.out_call (R39.LnK.of (s := R39.rsOf (lookK M) P o) (by assumption) (by assumption) (by assumption) hf9) (R39.len1 (by assumption)) hk]; exact no_such_condition)
        | (rw [List.append_nil o, R39.out_proc (R39.LnK.of (s := R39.rsOf (lookK M) P o) (by assumption) (by assumption) (by assumption) hf9) (R39.len1 (by assumption)) hk]; exact no_such_condition _ _)
        | (rw [List.append_nil o, List.append_nil P, R39.out_set (R39.LnK.of (s := R39.rsOf (lookK M) P o) (by assumption) (by assumption) (by assumption) hf9) (R39.len1 (by assumption)) hk]; exact no_such_condition.line)
        | (rw [List.append_nil o, List.append_nil P]; first | exact .zero (R39.out_idle (by assumption)) | exact .err (R39.out_repl (by assumption) (by assumption)) (by assumption) | exact .err (R39.out_scan (by assumption) (by assumption) (by assumption)) (by assumption) | exact .zero (R39.out_none (R39.LnK.of (s := R39.rsOf (lookK M) P o) (by assumption) (by assumption) (by assumption) hf9) (R39.len0 (by assumption))) | exact .err (R39.out_end (R39.LnK.of (s := R39.rsOf (lookK M) P o) (by assumption) (by assumption) (by assumption) hf9) (R39.len1 (by assumption)) hk) (by decide) | exact .err (R39.out_three (R39.LnK.of (s := R39.rsOf (lookK M) P o) (by assumption) (by assumption) (by assumption) hf9) (R39.len1 (by assumption)) hk) (by decide))
     ·refine JO_read (Value.tuple #[Value.func (.func 90) #[] #[], vB true]) rfl trivial (x_lookup_ok 4 (f := vS) (k := (ro.getD 0 [])) rfl rfl rfl Tryd.underlying100 (mapK_s Tryd.underlying9) Ty.ze124 (lk_ne c39j0_ (lk_ne c39j0_ (lk_ne c39j0_ (lk_ne c39j0_ (lk_ne c39j0_ (lk_ne c39j0_ (lk_hit (by exact hk))))))))) ?_
      refine s_ mv_ (s_ (ex_ 0) (s_ (ex_ 1) (s_ av_ (s_ av_ (z_ (xk_ [0, 5, 6, 7, 10, 11, 12] ?_))))))
      refine n_ (q_ (q_ (g_ (s_ mv_ (jr_ (vB false) (z_ (n_ (iff_ (sk_ (n_ (q_ (g_ (s_ mv_ (s_ mv_ (r_ (ldN 1 [vL rowsA rows.length rowsC, vS [], vB false] Ty.ag82 Ty.sz82) (s_ mv_ ?_))))))))))))))))
      refine JO_callB (Lown [Ent.blk r 77 [Value.map (some mB), Value.map (some qB), vL oA o.length oC], Ent.row (.slice oA o.length oC) 40 4 o.length (o.flatMap Statement.enc)]) [Ent.blk r 77 [Value.map (some mB), Value.map (some qB), vL oA o.length oC], Ent.row (.slice oA o.length oC) 40 4 o.length (o.flatMap Statement.enc)] [Ent.blk b2 79 [vI 0, vI 0], Ent.blk b1 82 [vL rowsA rows.length rowsC, vS [], vB false], Ent.mp vS mB (M.map kvS), Ent.mp vS kb [([115, 101, 116], Value.func (.func 86) #[] #[]), ([112, 114, 111, 99], Value.func (.func 87) #[] #[]), ([101, 110, 100], Value.func (.func 88) #[] #[]), ([99, 97, 108, 108], Value.func (.func 89) #[] #[]), ([106, 111, 98], Value.func (.func 90) #[] #[]), ([115, 116, 101, 112], Value.func (.func 90) #[] #[]), ([100, 100], Value.func (.func 90) #[] #[])], Ent.mp vS qB (P.map R39.procE)] rfl trivial (fun _ => x_callv (first := []) (caps := []) rfl Ty.ca90 rfl) (fun _ h => (((((((h.front 5 _ rfl).front 5 _ rfl).front 5 _ rfl).front 4 _ rfl).front 4 _ rfl).front 6 _ rfl).front 6 _ rfl).keep [true, true, true, true, true, true, true] rfl) lown_mem (fun w hS => f90_ok r (Value.map (some mB)) (Value.map (some qB)) o oA oC o.length rows rowsA rowsC [] false ro roA roC w (rowsR.on hS lown_mem) (roR.on hS lown_mem) hy_ hy_ hy_ hy_ hy_ hy_ hy_ (hS.give lown_in)) ?_
      rintro wc _ _ wbhB71 ⟨n61, fl62, fc63, y64, yA65, yC66, rl67, rl67A, rl67C, rfl, rfl, rl67R, rl67L, hf68, hf69, hf70⟩ hc0 hB71
      have rowsR := rowsR.again hB71
      have roR0 := roR0.againF hB71
      have roR := roR.again hB71
      have hT := hT.again hB71
      have PN := PN.again hB71
      have rl67R0 := rl67R.mono (lown_rangeAF (w00 := w) hc0 (hB12.back _ _ hc0).fr.size)
      have rl67R := rl67R.mono (lown_rangeA hc0)
      try simp only [List.length_cons, List.length_nil, Nat.zero_add, Nat.reduceAdd] at hf68
      refine s_ (ex_ 0) (s_ (ex_ 1) (s_ av_ (o_ (stG 2 Ty.sz79 ?_))))
      refine z_ (n_ (rt_ ?_))
      refine JX_retsD [_, _] (Value.tuple #[_, _]) Tryd.results63 (fun w h => ⟨rfl, ⟨_, rfl, load_blkN 2 [vI fl62, vI fc63] h rfl Ty.ag79 Ty.sz79 rfl⟩, trivial⟩) rfl [Ent.blk r 77 [Value.map (some mB), Value.map (some qB), vL yA65 y64.length yC66], Ent.mp vS mB (M.map kvS), Ent.mp vS kb [([115, 101, 116], Value.func (.func 86) #[] #[]), ([112, 114, 111, 99], Value.func (.func 87) #[] #[]), ([101, 110, 100], Value.func (.func 88) #[] #[]), ([99, 97, 108, 108], Value.func (.func 89) #[] #[]), ([106, 111, 98], Value.func (.func 90) #[] #[]), ([115, 116, 101, 112], Value.func (.func 90) #[] #[]), ([100, 100], Value.func (.func 90) #[] #[])], Ent.mp vS qB (P.map R39.procE), Ent.row (.slice yA65 y64.length yC66) 40 4 y64.length (y64.flatMap Statement.enc)] (fun _ h => (((((h.front 1 _ rfl).front 6 _ rfl).front 6 _ rfl).front 6 _ rfl).front 4 _ rfl).keep [true, true, true, true, true, false, false] rfl) (fun _ _ h => (hB12.back _ _ (hB71.back _ _ h))) (fun wx hw => ⟨n61, fl62, fc63, y64, yA65, yC66, (y64.drop o.length), M, ([] : R39.PL), ?_, ?_, (R39.StmJ.kept hf68 (Kp.and (roR0.againF ((((((hw.front 1 _ rfl).front 6 _ rfl).front 6 _ rfl).front 6 _ rfl).front 4 _ rfl).keep [true, true, true, true, true, false, false] rfl)).kp (Kp.and (rl67R0.againF ((((((hw.front 1 _ rfl).front 6 _ rfl).front 6 _ rfl).front 6 _ rfl).front 4 _ rfl).keep [true, true, true, true, true, false, false] rfl)).kp (Kp.pure (by first | assumption | exact Nat.zero_le _))))), R39.pkv_nil, ?_, ?_, ?_, ?_, ?_, ?_⟩)
      ·rfl
      ·have e_y0 : ((P.map R39.procE) : List (Bytes × Value)) = ((P ++ ([] : R39.PL)).map R39.procE) := by
        exact c39j2_
       have e_all := (congrArg (fun (y0 : List (Bytes × Value)) => [Ent.blk r 77 [Value.map (some mB), Value.map (some qB), vL yA65 y64.length yC66], Ent.mp vS mB (M.map kvS), Ent.mp vS kb [([115, 101, 116], Value.func (.func 86) #[] #[]), ([112, 114, 111, 99], Value.func (.func 87) #[] #[]), ([101, 110, 100], Value.func (.func 88) #[] #[]), ([99, 97, 108, 108], Value.func (.func 89) #[] #[]), ([106, 111, 98], Value.func (.func 90) #[] #[]), ([115, 116, 101, 112], Value.func (.func 90) #[] #[]), ([100, 100], Value.func (.func 90) #[] #[])], Ent.mp vS qB y0, Ent.row (.slice yA65 y64.length yC66) 40 4 y64.length (y64.flatMap Statement.enc)]) e_y0)
       exact e_all
      ·first | assumption | exact (List.append_nil o).symm | exact hf68.new
      ·first | assumption | omega
      ·assumption
      ·first | assumption | exact R39.pga_nil
      ·first | assumption | exact R39.rowsIn_nil
      ·first
        | (rw [List.append_nil P, R39.out_stm (R39.LnK.of (s := R39.rsOf (lookK M) P o) (by assumption) (by assumption) (by assumption) hf9) (R39.len1 (by assumption)) c39j1_]; exact R39.StmJ.lineO (R := .ok (0, [])) hf68 rfl)
        | (rw [List.append_nil P, R39.out_call (R39.LnK.of (s := R39.rsOf (lookK M) P o) (by assumption) (by assumption) (by assumption) hf9) (R39.len1 (by assumption)) hk]; exact no_such_condition)
        | (rw [List.append_nil o, R39.out_proc (R39.LnK.of (s := R39.rsOf (lookK M) P o) (by assumption) (by assumption) (by assumption) hf9) (R39.len1 (by assumption)) hk]; exact no_such_condition _ _)
        | (rw [List.append_nil o, List.append_nil P, R39.out_set (R39.LnK.of (s := R39.rsOf (lookK M) P o) (by assumption) (by assumption) (by assumption) hf9) (R39.len1 (by assumption)) hk]; exact no_such_condition.line)
        | (rw [List.append_nil o, List.append_nil P]; first | exact .zero (R39.out_idle (by assumption)) | exact .err (R39.out_repl (by assumption) (by assumption)) (by assumption) | exact .err (R39.out_scan (by assumption) (by assumption) (by assumption)) (by assumption) | exact .zero (R39.out_none (R39.LnK.of (s := R39.rsOf (lookK M) P o) (by assumption) (by assumption) (by assumption) hf9) (R39.len0 (by assumption))) | exact .err (R39.out_end (R39.LnK.of (s := R39.rsOf (lookK M) P o) (by assumption) (by assumption) (by assumption) hf9) (R39.len1 (by assumption)) hk) (by decide) | exact .err (R39.out_three (R39.LnK.of (s := R39.rsOf (lookK M) P o) (by assumption) (by assumption) (by assumption) hf9) (R39.len1 (by assumption)) hk) (by decide))
     ·obtain ⟨hn0, hn1, hn2, hn3, hn4, hn5, hn6⟩ := hk
      have hk := R39.keys_none hn0 hn1 hn2 hn3 hn4 hn5 hn6
      refine JO_read (Value.tuple #[Value.nilFunc, vB false]) rfl trivial (x_lookup_ok 4 (f := vS) (k := (ro.getD 0 [])) rfl rfl rfl Tryd.underlying100 (mapK_s Tryd.underlying9) Ty.ze124 (lk_ne c39j0_ (lk_ne c39j0_ (lk_ne c39j0_ (lk_ne c39j0_ (lk_ne c39j0_ (lk_ne c39j0_ (lk_ne c39j0_ lk_nil)))))))) ?_
      refine s_ mv_ (s_ (ex_ 0) (s_ (ex_ 1) (s_ av_ (s_ av_ (z_ (xk_ [0, 5, 6, 7, 10, 11, 12] ?_))))))
      refine n_ (q_ (q_ (g_ (s_ mv_ (jr_ (vB true) (z_ (n_ (ift (q_ (g_ (r_ (ldN 1 [vL rowsA rows.length rowsC, vS [], vB false] Ty.ag82 Ty.sz82) (c0 (cl_ Ty.ca91) (fun w hS => f91_ok rows _ _ [] _ 3 w (rno rowsR hS) hy_) (s_ av_ (o_ (stG 0 Ty.sz79 ?_)))))))))))))))
      refine z_ (n_ (rt_ (nr_ ?_)))
      refine JX_retsD [_, _] (Value.tuple #[_, _]) Tryd.results63 (fun w h => ⟨rfl, ⟨_, rfl, load_blkN 0 [vI ((rows.getD 0 default).number), vI 3] h rfl Ty.ag79 Ty.sz79 rfl⟩, trivial⟩) rfl _ (fun _ h => h.keep [false, false, true, true, true, true, true] rfl) (fun _ _ h => (hB12.back _ _ h)) (fun wx hw => ⟨0, (rows.getD 0 default).number, 3, o, oA, oC, ([] : List Statement), M, ([] : R39.PL), ?_, ?_, R39.okN_nil, R39.pkv_nil, ?_, ?_, ?_, ?_, ?_, ?_⟩)
      ·rfl
      ·have e_y0 : ((P.map R39.procE) : List (Bytes × Value)) = ((P ++ ([] : R39.PL)).map R39.procE) := by
        exact c39j2_
       have e_all := (congrArg (fun (y0 : List (Bytes × Value)) => [Ent.blk r 77 [Value.map (some mB), Value.map (some qB), vL oA o.length oC], Ent.mp vS mB (M.map kvS), Ent.mp vS kb [([115, 101, 116], Value.func (.func 86) #[] #[]), ([112, 114, 111, 99], Value.func (.func 87) #[] #[]), ([101, 110, 100], Value.func (.func 88) #[] #[]), ([99, 97, 108, 108], Value.func (.func 89) #[] #[]), ([106, 111, 98], Value.func (.func 90) #[] #[]), ([115, 116, 101, 112], Value.func (.func 90) #[] #[]), ([100, 100], Value.func (.func 90) #[] #[])], Ent.mp vS qB y0, Ent.row (.slice oA o.length oC) 40 4 o.length (o.flatMap Statement.enc)]) e_y0)
       exact e_all
      ·exact c39j3_
      ·first | assumption | omega
      ·assumption
      ·first | assumption | exact R39.pga_nil
      ·first | assumption | exact R39.rowsIn_nil
      ·first
        | (rw [List.append_nil P, R39.out_stm (R39.LnK.of (s := R39.rsOf (lookK M) P o) (by assumption) (by assumption) (by assumption) hf9) (R39.len1 (by assumption)) c39j1_]; exact R39.StmJ.lineO (R := .ok (0, [])) no_such_condition rfl)
        | (rw [List.append_nil P, R39.out_call (R39.LnK.of (s := R39.rsOf (lookK M) P o) (by assumption) (by assumption) (by assumption) hf9) (R39.len1 (by assumption)) hk]; exact no_such_condition)
        | (rw [List.append_nil o, R39.out_proc (R39.LnK.of (s := R39.rsOf (lookK M) P o) (by assumption) (by assumption) (by assumption) hf9) (R39.len1 (by assumption)) hk]; exact no_such_condition _ _)
        | (rw [List.append_nil o, List.append_nil P, R39.out_set (R39.LnK.of (s := R39.rsOf (lookK M) P o) (by assumption) (by assumption) (by assumption) hf9) (R39.len1 (by assumption)) hk]; exact no_such_condition.line)
        | (rw [List.append_nil o, List.append_nil P]; first | exact .zero (R39.out_idle (by assumption)) | exact .err (R39.out_repl (by assumption) (by assumption)) (by assumption) | exact .err (R39.out_scan (by assumption) (by assumption) (by assumption)) (by assumption) | exact .zero (R39.out_none (R39.LnK.of (s := R39.rsOf (lookK M) P o) (by assumption) (by assumption) (by assumption) hf9) (R39.len0 (by assumption))) | exact .err (R39.out_end (R39.LnK.of (s := R39.rsOf (lookK M) P o) (by assumption) (by assumption) (by assumption) hf9) (R39.len1 (by assumption)) hk) (by decide) | exact .err (R39.out_three (R39.LnK.of (s := R39.rsOf (lookK M) P o) (by assumption) (by assumption) (by assumption) hf9) (R39.len1 (by assumption)) hk) (by decide))
set_option maxHeartbeats 4000000 in
set_option maxRecDepth 20000 in
theorem read_out (r : Nat) (mB : Nat) (M : List (Bytes × Bytes)) (qB : Nat) (P : R39.PL) (o : List Statement) (oA : Option Addr) (oC : Nat) (oN : Nat) (rows : List Row) (rowsA : Option Addr) (rowsC : Nat) (w : World) (rowsR : RO (Lown [Ent.blk r 77 [Value.map (some mB), Value.map (some qB), vL oA oN oC], Ent.mp vS mB (M.map kvS), Ent.mp vS qB (P.map R39.procE), Ent.row (.slice oA oN oC) 40 4 oN (o.flatMap Statement.enc)]) w rowsA (rows.flatMap Row.enc)) (PN : Kp (Lown [Ent.blk r 77 [Value.map (some mB), Value.map (some qB), vL oA oN oC], Ent.mp vS mB (M.map kvS), Ent.mp vS qB (P.map R39.procE), Ent.row (.slice oA oN oC) 40 4 oN (o.flatMap Statement.enc)]) w (R39.PkA P)) (hT : Tab (Lown [Ent.blk r 77 [Value.map (some mB), Value.map (some qB), vL oA oN oC], Ent.mp vS mB (M.map kvS), Ent.mp vS qB (P.map R39.procE), Ent.row (.slice oA oN oC) 40 4 oN (o.flatMap Statement.enc)]) w) (oQ : oN = o.length) (q0 : rows.length ≤ rowsC) (q1 : rows.length ≤ 100000) (q2 : ∀ i, (rows.getD i default).text.length ≤ 20000) (q3 : R39.ShortV M) (q4 : o.length ≤ 400) (PG : R39.PgA P) (hg : Give (Lown [Ent.blk r 77 [Value.map (some mB), Value.map (some qB), vL oA oN oC], Ent.mp vS mB (M.map kvS), Ent.mp vS qB (P.map R39.procE), Ent.row (.slice oA oN oC) 40 4 oN (o.flatMap Statement.enc)]) w [Ent.blk r 77 [Value.map (some mB), Value.map (some qB), vL oA oN oC], Ent.mp vS mB (M.map kvS), Ent.mp vS qB (P.map R39.procE), Ent.row (.slice oA oN oC) 40 4 oN (o.flatMap Statement.enc)]) : Calls Tryd.prog 39 #[pB r 0, vG [vL rowsA rows.length rowsC, vS [], vB false]] w (GivesW (Lown [Ent.blk r 77 [Value.map (some mB), Value.map (some qB), vL oA oN oC], Ent.mp vS mB (M.map kvS), Ent.mp vS qB (P.map R39.procE), Ent.row (.slice oA oN oC) 40 4 oN (o.flatMap Statement.enc)]) w fun v L wx => ∃ fl : Int, ∃ fc : Int, ∃ y : List Statement, ∃ yA : Option Addr, ∃ yC : Nat, ∃ N : List Statement, ∃ M2 : List (Bytes × Bytes), ∃ P2 : R39.PL, v = vG [vI fl, vI fc] ∧ L = [Ent.blk r 77 [Value.map (some mB), Value.map (some qB), vL yA y.length yC], Ent.mp vS mB (M2.map kvS), Ent.mp vS qB (P2.map R39.procE), Ent.row (.slice yA y.length yC) 40 4 y.length (y.flatMap Statement.enc)] ∧ Kp (Lown L ++ List.range w.heap.size) wx (okL Statement.ok N) ∧ (y = o ++ N) ∧ (y.length ≤ 400) ∧ (R39.RdJ (R39.readOut rows (R39.rsOf (lookK M) P o)) fl fc (R39.rsOf (lookK M2) P2 (o ++ N)))) := by
 subst oQ
 refine calls_JW (Lown [Ent.blk r 77 [Value.map (some mB), Value.map (some qB), vL oA o.length oC], Ent.mp vS mB (M.map kvS), Ent.mp vS qB (P.map R39.procE), Ent.row (.slice oA o.length oC) 40 4 o.length (o.flatMap Statement.enc)]) 31 Tryd.func39 rfl Tryd.ntmps39 [(0, _), (1, _)] rfl rfl hg ?_
 refine q_ (g_ (o_ (bxG fun b1 => ?_)))
 refine o_ (al_ Ty.ze79 fun b2 => ?_)
 refine z_ (n_ (q_ (g_ ?_)))
 refine c1 (cl_ Ty.ca62) (fun w hS => f62_ok w) ?_
 rintro _ _ ⟨kb3, rfl, rfl⟩
 refine s_ av_ (z_ (n_ (q_ (k_ ?_))))
 refine J_loopB (X := (List Row) × (Option Addr) × Nat × (List Statement) × (Option Addr) × Nat × (List (Bytes × Bytes)) × (List (Bytes × Proc))) (fun (⟨X, XA, XC, z, zA, zC, M9, Q⟩ : (List Row) × (Option Addr) × Nat × (List Statement) × (Option Addr) × Nat × (List (Bytes × Bytes)) × (List (Bytes × Proc))) => (z = o ++ z.drop o.length) ∧ (R39.readOut rows (R39.rsOf (lookK M) P o) = R39.readOut X (R39.rsOf (lookK M9) Q z)) ∧ (z.length ≤ 400) ∧ (X.length ≤ rows.length) ∧ (X.length ≤ XC) ∧ (∀ i, (X.getD i default).text.length ≤ 20000) ∧ (R39.ShortV M9) ∧ (R39.PgA Q)) (fun (⟨X, XA, XC, z, zA, zC, M9, Q⟩ : (List Row) × (Option Addr) × Nat × (List Statement) × (Option Addr) × Nat × (List (Bytes × Bytes)) × (List (Bytes × Proc))) wx => RO (Lown [Ent.mp vS kb3 [([115, 101, 116], Value.func (.func 86) #[] #[]), ([112, 114, 111, 99], Value.func (.func 87) #[] #[]), ([101, 110, 100], Value.func (.func 88) #[] #[]), ([99, 97, 108, 108], Value.func (.func 89) #[] #[]), ([106, 111, 98], Value.func (.func 90) #[] #[]), ([115, 116, 101, 112], Value.func (.func 90) #[] #[]), ([100, 100], Value.func (.func 90) #[] #[])], Ent.blk b2 79 [vI 0, vI 0], Ent.blk b1 82 [vL XA X.length XC, vS [], vB false], Ent.blk r 77 [Value.map (some mB), Value.map (some qB), vL zA z.length zC], Ent.mp vS mB (M9.map kvS), Ent.mp vS qB (Q.map R39.procE), Ent.row (.slice zA z.length zC) 40 4 z.length (z.flatMap Statement.enc)]) wx XA (X.flatMap Row.enc) ∧ Kp (Lown [Ent.mp vS kb3 [([115, 101, 116], Value.func (.func 86) #[] #[]), ([112, 114, 111, 99], Value.func (.func 87) #[] #[]), ([101, 110, 100], Value.func (.func 88) #[] #[]), ([99, 97, 108, 108], Value.func (.func 89) #[] #[]), ([106, 111, 98], Value.func (.func 90) #[] #[]), ([115, 116, 101, 112], Value.func (.func 90) #[] #[]), ([100, 100], Value.func (.func 90) #[] #[])], Ent.blk b2 79 [vI 0, vI 0], Ent.blk b1 82 [vL XA X.length XC, vS [], vB false], Ent.blk r 77 [Value.map (some mB), Value.map (some qB), vL zA z.length zC], Ent.mp vS mB (M9.map kvS), Ent.mp vS qB (Q.map R39.procE), Ent.row (.slice zA z.length zC) 40 4 z.length (z.flatMap Statement.enc)] ++ List.range w.heap.size) wx (okL Statement.ok (z.drop o.length)) ∧ Kp (Lown [Ent.mp vS kb3 [([115, 101, 116], Value.func (.func 86) #[] #[]), ([112, 114, 111, 99], Value.func (.func 87) #[] #[]), ([101, 110, 100], Value.func (.func 88) #[] #[]), ([99, 97, 108, 108], Value.func (.func 89) #[] #[]), ([106, 111, 98], Value.func (.func 90) #[] #[]), ([115, 116, 101, 112], Value.func (.func 90) #[] #[]), ([100, 100], Value.func (.func 90) #[] #[])], Ent.blk b2 79 [vI 0, vI 0], Ent.blk b1 82 [vL XA X.length XC, vS [], vB false], Ent.blk r 77 [Value.map (some mB), Value.map (some qB), vL zA z.length zC], Ent.mp vS mB (M9.map kvS), Ent.mp vS qB (Q.map R39.procE), Ent.row (.slice zA z.length zC) 40 4 z.length (z.flatMap Statement.enc)]) wx (R39.PkA Q)) (fun (⟨X, XA, XC, z, zA, zC, M9, Q⟩ : (List Row) × (Option Addr) × Nat × (List Statement) × (Option Addr) × Nat × (List (Bytes × Bytes)) × (List (Bytes × Proc))) => [(0, pB r 0), (3, pB b1 0), (4, pB b2 0), (5, Value.map (some kb3))]) (fun (⟨X, XA, XC, z, zA, zC, M9, Q⟩ : (List Row) × (Option Addr) × Nat × (List Statement) × (Option Addr) × Nat × (List (Bytes × Bytes)) × (List (Bytes × Proc))) => [Ent.mp vS kb3 [([115, 101, 116], Value.func (.func 86) #[] #[]), ([112, 114, 111, 99], Value.func (.func 87) #[] #[]), ([101, 110, 100], Value.func (.func 88) #[] #[]), ([99, 97, 108, 108], Value.func (.func 89) #[] #[]), ([106, 111, 98], Value.func (.func 90) #[] #[]), ([115, 116, 101, 112], Value.func (.func 90) #[] #[]), ([100, 100], Value.func (.func 90) #[] #[])], Ent.blk b2 79 [vI 0, vI 0], Ent.blk b1 82 [vL XA X.length XC, vS [], vB false], Ent.blk r 77 [Value.map (some mB), Value.map (some qB), vL zA z.length zC], Ent.mp vS mB (M9.map kvS), Ent.mp vS qB (Q.map R39.procE), Ent.row (.slice zA z.length zC) 40 4 z.length (z.flatMap Statement.enc)]) (fun (⟨X, XA, XC, z, zA, zC, M9, Q⟩ : (List Row) × (Option Addr) × Nat × (List Statement) × (Option Addr) × Nat × (List (Bytes × Bytes)) × (List (Bytes × Proc))) => X.length) ((rows, rowsA, rowsC, o, oA, oC, M, P) : (List Row) × (Option Addr) × Nat × (List Statement) × (Option Addr) × Nat × (List (Bytes × Bytes)) × (List (Bytes × Proc))) ?_ ⟨rfl, rfl, rfl, rfl, trivial⟩ (fun _ h => h) (fun wx hw => ⟨(rowsR.again (hw)), R39.kept_start, (PN.again (hw))⟩) ?_
 ·try dsimp only
  refine ⟨?_, ?_, ?_, ?_, ?_, ?_, ?_, ?_⟩
  ·exact R39.pre_start
  ·rfl
  ·first | rfl | omega | (simp_all; done) | (simp_all; omega)
  ·first | rfl | omega | (simp_all; done) | (simp_all; omega)
  ·first | rfl | omega | (simp_all; done) | (simp_all; omega)
  ·assumption
  ·assumption
  ·assumption
 rintro ⟨X, XA, XC, z, zA, zC, M9, Q⟩ wb1 hI1 hW1 hB1
 have rowsR := rowsR.again hB1
 have hT := hT.again hB1
 have PN := PN.again hB1
 obtain ⟨XR, kz0, kQ⟩ := hW1
 have kz := kz0.fromF
 obtain ⟨i1_0, i1_1, i1_2, i1_3, i1_4, i1_5, i1_6, i1_7⟩ := hI1
 try dsimp only at i1_0
 try dsimp only at i1_1
 try dsimp only at i1_2
 try dsimp only at i1_3
 try dsimp only at i1_4
 try dsimp only at i1_5
 try dsimp only at i1_6
 try dsimp only at i1_7
 try dsimp only
 refine q_ (q_ (g_ (s_ (fA 0 Ty.fi82_0) (r_ (ld_ 2 Ty.sc68) (s_ (lnS Tryd.underlying68) (s_ (x_gtr_i rfl rfl) (z_ (n_ ?_))))))))
 refine ifd (fun h4w h4 => ?_) (fun h4w h4 => ?_)
 ·refine sk_ (n_ (k_ (q_ (g_ (s_ mv_ (s_ mv_ (r_ (ldN 2 [vL XA X.length XC, vS [], vB false] Ty.ag82 Ty.sz82) ?_)))))))
  refine JO_callB (Lown [Ent.blk r 77 [Value.map (some mB), Value.map (some qB), vL zA z.length zC], Ent.mp vS mB (M9.map kvS), Ent.mp vS kb3 [([115, 101, 116], Value.func (.func 86) #[] #[]), ([112, 114, 111, 99], Value.func (.func 87) #[] #[]), ([101, 110, 100], Value.func (.func 88) #[] #[]), ([99, 97, 108, 108], Value.func (.func 89) #[] #[]), ([106, 111, 98], Value.func (.func 90) #[] #[]), ([115, 116, 101, 112], Value.func (.func 90) #[] #[]), ([100, 100], Value.func (.func 90) #[] #[])], Ent.mp vS qB (Q.map R39.procE), Ent.row (.slice zA z.length zC) 40 4 z.length (z.flatMap Statement.enc)]) [Ent.blk r 77 [Value.map (some mB), Value.map (some qB), vL zA z.length zC], Ent.mp vS mB (M9.map kvS), Ent.mp vS kb3 [([115, 101, 116], Value.func (.func 86) #[] #[]), ([112, 114, 111, 99], Value.func (.func 87) #[] #[]), ([101, 110, 100], Value.func (.func 88) #[] #[]), ([99, 97, 108, 108], Value.func (.func 89) #[] #[]), ([106, 111, 98], Value.func (.func 90) #[] #[]), ([115, 116, 101, 112], Value.func (.func 90) #[] #[]), ([100, 100], Value.func (.func 90) #[] #[])], Ent.mp vS qB (Q.map R39.procE), Ent.row (.slice zA z.length zC) 40 4 z.length (z.flatMap Statement.enc)] [Ent.blk b2 79 [vI 0, vI 0], Ent.blk b1 82 [vL XA X.length XC, vS [], vB false]] rfl trivial (fun _ => x_call Ty.ca63 rfl) (fun _ h => (((((((h.front 2 _ rfl).front 2 _ rfl).front 6 _ rfl).front 6 _ rfl).front 4 _ rfl).front 6 _ rfl).front 6 _ rfl).keep [true, true, true, true, true, true, true] rfl) lown_mem (fun w hS => line_out r kb3 mB M9 qB Q z zA zC z.length X XA XC w (XR.on hS lown_mem) (kQ.on hS lown_mem) (hT.on hS lown_mem) hy_ hy_ hy_ hy_ hy_ hy_ hy_ hy_ (hS.give lown_in)) ?_
  rintro wc _ _ wbhB20 ⟨n5, fl6, fc7, y8, yA9, yC10, N11, e12, NP13, rfl, rfl, kf21, kf22, hf14, hf15, hf16, hf17, hf18, hf19⟩ hc0 hB20
  have rowsR := rowsR.again hB20
  have XR := XR.again hB20
  have hT := hT.again hB20
  have PN := PN.again hB20
  have kz0 := kz0.againF hB20
  have kz := kz.again hB20
  have kQ := kQ.again hB20
  have kf210 := kf21.mono (lown_rangeAF (w00 := w) hc0 (hB1.back _ _ hc0).fr.size)
  have kf21 := kf21.mono (lown_rangeA hc0)
  have kf220 := kf22.mono (lown_rangeAF (w00 := w) hc0 (hB1.back _ _ hc0).fr.size)
  have kf22 := kf22.mono (lown_rangeA hc0)
  refine s_ mv_ (s_ (ex_ 0) (s_ (ex_ 1) (o_ (al_ Ty.ze79 fun b23 => ?_))))
  refine s_ av_ (o_ (stG 0 Ty.sz79 ?_))
  refine z_ (n_ (q_ (q_ (g_ (s_ (fA 1 Ty.fi79_1) (r_ (ld_ 0 Ty.sc25) (s_ (x_neq_i rfl rfl) (z_ (n_ ?_)))))))))
  refine ifd (fun h24w h24 => ?_) (fun h24w h24 => ?_)
  ·refine q_ (g_ (r_ (ldN 0 [vI fl6, vI fc7] Ty.ag79 Ty.sz79) (o_ (stG 6 Ty.sz79 ?_))))
   refine z_ (xk_ [0, 3, 4, 5, 6] ?_)
   refine n_ (rt_ (nr_ (kq_ ?_)))
   refine JX_roundB_ret ?_
   refine kq_ (nr_ ?_)
   refine JX_retsD [_] _ Tryd.results39 (fun w h => ⟨⟨_, rfl, load_blkN 6 [vI fl6, vI fc7] h rfl Ty.ag79 Ty.sz79 rfl⟩, trivial⟩) rfl _ (fun _ h => h.keep [false, true, true, false, true, true, false, false] rfl) (fun _ _ h => (hB1.back _ _ (hB20.back _ _ h))) (fun wx hw => ⟨fl6, fc7, y8, yA9, yC10, (y8.drop o.length), e12, (Q ++ NP13), ?_, ?_, (R39.kept_more hf14 i1_0 (kz0.againF (hw.keep [false, true, true, false, true, true, false, false] rfl)) (kf210.againF (hw.keep [false, true, true, false, true, true, false, false] rfl))), ?_, ?_, ?_⟩)
   ·rfl
   ·rfl
   ·first | exact i1_0 | exact R39.pre_more hf14 i1_0
   ·first | assumption | omega
   ·first
     | (rw [← i1_0]; exact .inl ⟨R39.readO_done i1_1 (by omega), rfl, rfl⟩)
     | exact .inr ⟨R39.readO_err i1_1 (by omega) (R39.LnJ.er1 hf19 (by assumption)), by assumption⟩
  ·obtain ⟨k25, rfl, hkk⟩ := R39.LnJ.ok1 hf19 (by assumption)
   have hkx := R39.lineOut_rows hkk
   rw [List.length_drop] at hkx
   refine sk_ (n_ (g_ (s_ (fA 0 Ty.fi82_0) (r_ (ld_ 7 Ty.sc68) (s_ mv_ (s_ (x_add_n (a := k25) (b := 1) rfl rfl (by omega)) (s_ (x_subrow (lo := k25 + 1) (hi := X.length) rfl Tryd.underlying68 Ty.sz73 (.inl rfl) (.inr ⟨rfl, rfl⟩) lt_ lt_) ?_)))))))
   have hro26 := RO.subF XR Row.enc_len XC (k25 + 1) (X.length - (k25 + 1)) lt_
   rw [show X.length - (k25 + 1) = (X.drop (k25 + 1)).length from List.length_drop.symm, List.take_length] at hro26
   refine JO_weaken (E' := [(0, pB r 0), (3, pB b1 0), (4, pB b2 0), (5, Value.map (some kb3)), (9, pB b1 0), (10, vL XA X.length XC), (11, vI ((X.length : Nat) : Int)), (12, vB (decide ((0 : Int) < ((X.length : Nat) : Int)))), (14, pB r 0), (15, Value.map (some kb3)), (16, vG [vL XA X.length XC, vS [], vB false]), (17, Value.tuple #[vI ((k25 : Nat) : Int), vG [vI fl6, vI fc7]]), (13, Value.tuple #[vI ((k25 : Nat) : Int), vG [vI fl6, vI fc7]]), (18, vI ((k25 : Nat) : Int)), (19, vG [vI fl6, vI fc7]), (7, pB b23 0), (6, vI ((k25 : Nat) : Int)), (20, pB b23 1), (21, vI fc7), (22, vB (decide (fc7 ≠ 0))), (24, pB b1 0), (25, vL XA X.length XC), (26, vI ((k25 : Nat) : Int)), (27, vI ((k25 + 1 : Nat) : Int)), (28, vL (subA XA XC (k25 + 1) 2) ((X.drop (k25 + 1)).length) (XC - (k25 + 1)))]) (L' := [Ent.blk b23 79 [vI fl6, vI fc7], Ent.blk r 77 [Value.map (some mB), Value.map (some qB), vL yA9 y8.length yC10], Ent.mp vS mB (e12.map kvS), Ent.mp vS kb3 [([115, 101, 116], Value.func (.func 86) #[] #[]), ([112, 114, 111, 99], Value.func (.func 87) #[] #[]), ([101, 110, 100], Value.func (.func 88) #[] #[]), ([99, 97, 108, 108], Value.func (.func 89) #[] #[]), ([106, 111, 98], Value.func (.func 90) #[] #[]), ([115, 116, 101, 112], Value.func (.func 90) #[] #[]), ([100, 100], Value.func (.func 90) #[] #[])], Ent.mp vS qB ((Q ++ NP13).map R39.procE), Ent.row (.slice yA9 y8.length yC10) 40 4 y8.length (y8.flatMap Statement.enc), Ent.blk b2 79 [vI 0, vI 0], Ent.blk b1 82 [vL XA X.length XC, vS [], vB false]]) ⟨rfl, rfl, rfl, rfl, rfl, rfl, rfl, rfl, rfl, rfl, rfl, rfl, rfl, rfl, rfl, rfl, rfl, rfl, rfl, rfl, rfl, rfl, rfl, rfl, (congrArg (fun n : Nat => some (Value.slice (subA XA XC (k25 + 1) 2) n (XC - (k25 + 1)))) (by exact List.length_drop.symm)), trivial⟩ (fun _ h => h) ?_
   refine s_ (fA 0 Ty.fi82_0) (o_ (st1 7 Ty.sz68 ?_))
   refine z_ (kx_ ?_)
   refine JX_roundB (((X.drop (k25 + 1)), (subA XA XC (k25 + 1) 2), XC - (k25 + 1), y8, yA9, yC10, e12, (Q ++ NP13)) : (List Row) × (Option Addr) × Nat × (List Statement) × (Option Addr) × Nat × (List (Bytes × Bytes)) × (List (Bytes × Proc))) ?_ ?_ ⟨rfl, rfl, rfl, rfl, trivial⟩ (fun _ _ h => (hB1.back _ _ (hB20.back _ _ h))) (fun _ h => (((((((h.front 5 _ rfl).front 5 _ rfl).front 4 _ rfl).front 4 _ rfl).front 7 _ rfl).front 7 _ rfl).front 7 _ rfl).keep [true, true, true, true, true, true, true, false] rfl) (fun wx hw => ⟨(hro26.again ((((((((hw.front 5 _ rfl).front 5 _ rfl).front 4 _ rfl).front 4 _ rfl).front 7 _ rfl).front 7 _ rfl).front 7 _ rfl).keep [true, true, true, true, true, true, true, false] rfl)), (R39.kept_more hf14 i1_0 (kz0.againF ((((((((hw.front 5 _ rfl).front 5 _ rfl).front 4 _ rfl).front 4 _ rfl).front 7 _ rfl).front 7 _ rfl).front 7 _ rfl).keep [true, true, true, true, true, true, true, false] rfl)) (kf210.againF ((((((((hw.front 5 _ rfl).front 5 _ rfl).front 4 _ rfl).front 4 _ rfl).front 7 _ rfl).front 7 _ rfl).front 7 _ rfl).keep [true, true, true, true, true, true, true, false] rfl))), (R39.pka_more (kQ.again ((((((((hw.front 5 _ rfl).front 5 _ rfl).front 4 _ rfl).front 4 _ rfl).front 7 _ rfl).front 7 _ rfl).front 7 _ rfl).keep [true, true, true, true, true, true, true, false] rfl)) (kf22.again ((((((((hw.front 5 _ rfl).front 5 _ rfl).front 4 _ rfl).front 4 _ rfl).front 7 _ rfl).front 7 _ rfl).front 7 _ rfl).keep [true, true, true, true, true, true, true, false] rfl)) (XR.again ((((((((hw.front 5 _ rfl).front 5 _ rfl).front 4 _ rfl).front 4 _ rfl).front 7 _ rfl).front 7 _ rfl).front 7 _ rfl).keep [true, true, true, true, true, true, true, false] rfl)) hf18 i1_4)⟩)
   ·try dsimp only
    refine ⟨?_, ?_, ?_, ?_, ?_, ?_, ?_, ?_⟩
    ·exact R39.pre_more hf14 i1_0
    ·rw [hf14]
     exact R39.readO_step i1_1 (by omega) hkk
    ·first | rfl | omega | (simp_all; done) | (simp_all; omega)
    ·rw [List.length_drop]; omega
    ·rw [List.length_drop]; omega
    ·exact R39.txt_drop i1_5 _
    ·assumption
    ·exact R39.pga_app i1_7 hf17
   ·try dsimp only
    rw [List.length_drop]; omega
 ·refine J_exit (ne_ (JX_roundB_exit (kh_ (n_ (q_ ?_)))))
  refine g_ (js_ (vG [vI 0, vI 0]) (x_build (by kernel_rfl)) (o_ (stG 1 Ty.sz79 ?_)))
  refine z_ (n_ (rt_ ?_))
  refine JX_retsD [_] _ Tryd.results39 (fun w h => ⟨⟨_, rfl, load_blkN 1 [vI 0, vI 0] h rfl Ty.ag79 Ty.sz79 rfl⟩, trivial⟩) rfl _ (fun _ h => h.keep [false, false, false, true, true, true, true] rfl) (fun _ _ h => (hB1.back _ _ h)) (fun wx hw => ⟨0, 0, z, zA, zC, (z.drop o.length), M9, Q, ?_, ?_, (kz0.againF (hw.keep [false, false, false, true, true, true, true] rfl)), ?_, ?_, ?_⟩)
  ·rfl
  ·rfl
  ·first | exact i1_0 | exact R39.pre_more no_such_condition i1_0
  ·first | assumption | omega
  ·first
    | (rw [← i1_0]; exact .inl ⟨R39.readO_done i1_1 (by omega), rfl, rfl⟩)
    | exact .inr ⟨R39.readO_err i1_1 (by omega) (R39.LnJ.er1 no_such_condition (by assumption)), by assumption⟩
end Go.Proofs.YtbfiibgmgopnaaaDoor
