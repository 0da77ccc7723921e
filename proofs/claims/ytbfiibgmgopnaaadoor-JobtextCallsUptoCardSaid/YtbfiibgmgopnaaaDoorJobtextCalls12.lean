/- C39f, Pl39m, C39g in one text. -/
import Derived.Test.YtbfiibgmgopnaaaDoorJobtextCalls11
import Derived.Test.YtbfiibgmgopnaaaDoorJobtextCalls4
set_option linter.unusedVariables false
set_option linter.unusedSimpArgs false
namespace Go.Proofs.YtbfiibgmgopnaaaDoor
open Go.GV
set_option linter.unusedVariables false
set_option linter.unusedSimpArgs false
theorem c39f0_ {p : Prop} (h : p := by first | (rw [hk]; decide) | exact hn0 | exact hn1 | exact hn2 | exact hn3 | exact hn4 | exact hn5 | exact hn6) : p := h
theorem c39f1_ {p : Prop} (h : p := by first | exact .inl hk | exact .inr (.inl hk) | exact .inr (.inr hk)) : p := h
theorem c39f2_ {p : Prop} (h : p := by first | exact .inl hk | exact .inr (.inl hk) | exact .inr (.inr (.inl hk)) | exact .inr (.inr (.inr hk))) : p := h
theorem c39f3_ {p : Prop} (h : p := by first | exact (List.append_nil o).symm | exact no_such_condition.new) : p := h
set_option maxHeartbeats 2000000 in
set_option maxRecDepth 20000 in
theorem line_in (r : Nat) (kb : Nat) (mB : Nat) (M : List (Bytes × Bytes)) (pr : Value) (o : List Statement) (oA : Option Addr) (oC : Nat) (oN : Nat) (rows : List Row) (rowsA : Option Addr) (rowsC : Nat) (cl : Bytes) (w : World) (rowsR : RO (Lown [Ent.blk r 77 [Value.map (some mB), pr, vL oA oN oC], Ent.mp vS mB (M.map kvS), Ent.mp vS kb [([115, 101, 116], Value.func (.func 86) #[] #[]), ([112, 114, 111, 99], Value.func (.func 87) #[] #[]), ([101, 110, 100], Value.func (.func 88) #[] #[]), ([99, 97, 108, 108], Value.func (.func 89) #[] #[]), ([106, 111, 98], Value.func (.func 90) #[] #[]), ([115, 116, 101, 112], Value.func (.func 90) #[] #[]), ([100, 100], Value.func (.func 90) #[] #[])], Ent.row (.slice oA oN oC) 40 4 oN (o.flatMap Statement.enc)]) w rowsA (rows.flatMap Row.enc)) (hT : Tab (Lown [Ent.blk r 77 [Value.map (some mB), pr, vL oA oN oC], Ent.mp vS mB (M.map kvS), Ent.mp vS kb [([115, 101, 116], Value.func (.func 86) #[] #[]), ([112, 114, 111, 99], Value.func (.func 87) #[] #[]), ([101, 110, 100], Value.func (.func 88) #[] #[]), ([99, 97, 108, 108], Value.func (.func 89) #[] #[]), ([106, 111, 98], Value.func (.func 90) #[] #[]), ([115, 116, 101, 112], Value.func (.func 90) #[] #[]), ([100, 100], Value.func (.func 90) #[] #[])], Ent.row (.slice oA oN oC) 40 4 oN (o.flatMap Statement.enc)]) w) (oQ : oN = o.length) (q0 : 0 < rows.length) (q1 : rows.length ≤ rowsC) (q2 : rows.length ≤ 100000) (q3 : ∀ i, (rows.getD i default).text.length ≤ 20000) (q4 : R39.ShortV M) (q5 : o.length ≤ 400) (hg : Give (Lown [Ent.blk r 77 [Value.map (some mB), pr, vL oA oN oC], Ent.mp vS mB (M.map kvS), Ent.mp vS kb [([115, 101, 116], Value.func (.func 86) #[] #[]), ([112, 114, 111, 99], Value.func (.func 87) #[] #[]), ([101, 110, 100], Value.func (.func 88) #[] #[]), ([99, 97, 108, 108], Value.func (.func 89) #[] #[]), ([106, 111, 98], Value.func (.func 90) #[] #[]), ([115, 116, 101, 112], Value.func (.func 90) #[] #[]), ([100, 100], Value.func (.func 90) #[] #[])], Ent.row (.slice oA oN oC) 40 4 oN (o.flatMap Statement.enc)]) w [Ent.blk r 77 [Value.map (some mB), pr, vL oA oN oC], Ent.mp vS mB (M.map kvS), Ent.mp vS kb [([115, 101, 116], Value.func (.func 86) #[] #[]), ([112, 114, 111, 99], Value.func (.func 87) #[] #[]), ([101, 110, 100], Value.func (.func 88) #[] #[]), ([99, 97, 108, 108], Value.func (.func 89) #[] #[]), ([106, 111, 98], Value.func (.func 90) #[] #[]), ([115, 116, 101, 112], Value.func (.func 90) #[] #[]), ([100, 100], Value.func (.func 90) #[] #[])], Ent.row (.slice oA oN oC) 40 4 oN (o.flatMap Statement.enc)]) : Calls Tryd.prog 63 #[pB r 0, Value.map (some kb), vG [vL rowsA rows.length rowsC, vS cl, vB true]] w (GivesW (Lown [Ent.blk r 77 [Value.map (some mB), pr, vL oA oN oC], Ent.mp vS mB (M.map kvS), Ent.mp vS kb [([115, 101, 116], Value.func (.func 86) #[] #[]), ([112, 114, 111, 99], Value.func (.func 87) #[] #[]), ([101, 110, 100], Value.func (.func 88) #[] #[]), ([99, 97, 108, 108], Value.func (.func 89) #[] #[]), ([106, 111, 98], Value.func (.func 90) #[] #[]), ([115, 116, 101, 112], Value.func (.func 90) #[] #[]), ([100, 100], Value.func (.func 90) #[] #[])], Ent.row (.slice oA oN oC) 40 4 oN (o.flatMap Statement.enc)]) w fun v L wx => ∃ n : Int, ∃ fl : Int, ∃ fc : Int, ∃ y : List Statement, ∃ yA : Option Addr, ∃ yC : Nat, ∃ N : List Statement, v = Value.tuple #[vI n, vG [vI fl, vI fc]] ∧ L = [Ent.blk r 77 [Value.map (some mB), pr, vL yA y.length yC], Ent.mp vS mB (M.map kvS), Ent.mp vS kb [([115, 101, 116], Value.func (.func 86) #[] #[]), ([112, 114, 111, 99], Value.func (.func 87) #[] #[]), ([101, 110, 100], Value.func (.func 88) #[] #[]), ([99, 97, 108, 108], Value.func (.func 89) #[] #[]), ([106, 111, 98], Value.func (.func 90) #[] #[]), ([115, 116, 101, 112], Value.func (.func 90) #[] #[]), ([100, 100], Value.func (.func 90) #[] #[])], Ent.row (.slice yA y.length yC) 40 4 y.length (y.flatMap Statement.enc)] ∧ Kp (Lown L ++ List.range w.heap.size) wx (okL Statement.ok N) ∧ (y = o ++ N) ∧ (y.length ≤ 400) ∧ (∀ P, R39.LnJ (R39.lineIn cl (rows.getD 0 default) (rows.drop 1) ⟨lookK M, P, o.map R39.pur⟩) n fl fc ⟨lookK M, P, (o ++ N).map R39.pur⟩)) := by
 subst oQ
 have htx := q3 0
 refine calls_JW (Lown [Ent.blk r 77 [Value.map (some mB), pr, vL oA o.length oC], Ent.mp vS mB (M.map kvS), Ent.mp vS kb [([115, 101, 116], Value.func (.func 86) #[] #[]), ([112, 114, 111, 99], Value.func (.func 87) #[] #[]), ([101, 110, 100], Value.func (.func 88) #[] #[]), ([99, 97, 108, 108], Value.func (.func 89) #[] #[]), ([106, 111, 98], Value.func (.func 90) #[] #[]), ([115, 116, 101, 112], Value.func (.func 90) #[] #[]), ([100, 100], Value.func (.func 90) #[] #[])], Ent.row (.slice oA o.length oC) 40 4 o.length (o.flatMap Statement.enc)]) 78 Tryd.func63 rfl Tryd.ntmps63 [(0, _), (1, _), (2, _)] rfl rfl hg ?_
 refine q_ (g_ (o_ (bxG fun b1 => ?_)))
 refine s_ av_ (o_ (al_ Ty.ze79 fun b2 => ?_))
 refine z_ (n_ (q_ (g_ (s_ (fA 0 Ty.fi82_0) (r_ (ld_ 1 Ty.sc68) (r_ (ixF (k := 0) Row.enc_len (cells_ro rowsR) Tryd.underlying68 Ty.sz73) (s_ (x_fieldAddr Ty.fi73_1 rfl (adr_add _ _ _)) (r_ (ldF (k := 0) 1 Row.enc_len (cells_ro rowsR) Ty.sc9) (c0 (cl_ Ty.ca23) (fun w hS => trim_ok _ w) ?_)))))))))
 have ha3 := R39.trim_le ((rows.getD 0 default).text)
 refine s_ av_ (z_ (n_ (q_ (q_ (g_ (s_ mv_ (js_ (vB (decide (R39.trim ((rows.getD 0 default).text) = ([] : Bytes)))) (x_eql_s rfl rfl) (s_ mv_ ?_))))))))
 refine or_ 3 (decide ((R39.trim ((rows.getD 0 default).text)).getD 0 0 = (35 : UInt8))) (fun g4 => ?_) ?_
 ·have g4r := g4
  have g4r := of_decide_eq_false g4r
  have g4rl := List.length_pos_iff.2 g4r
  refine sg_ g4 mv_ (sg_ g4 (x_idx_s (k := 0) rfl rfl Tryd.underlying9 (by omega)) (jg_ g4 (vB (decide ((R39.trim ((rows.getD 0 default).text)).getD 0 0 = (35 : UInt8)))) (x_eql_u8 rfl rfl) ?_))
  exact cr_
 refine z_ (n_ ?_)
 refine if_ (fun h5 => ?_) (fun h5 => ?_)
 ·have h5w := h5
  simp only [Bool.and_eq_true, Bool.or_eq_true, Bool.and_eq_false_iff, Bool.or_eq_false_iff, Bool.not_eq_true', Bool.not_eq_false', decide_eq_true_eq, decide_eq_false_iff_not] at h5
  refine q_ (g_ (js_ (vG [vI 0, vI 0]) (x_build (by kernel_rfl)) (s_ av_ (o_ (stG 0 Ty.sz79 ?_)))))
  refine z_ (n_ (rt_ (nr_ ?_)))
  refine JX_retsD [_, _] (Value.tuple #[_, _]) Tryd.results63 (fun w h => ⟨rfl, ⟨_, rfl, load_blkN 0 [vI 0, vI 0] h rfl Ty.ag79 Ty.sz79 rfl⟩, trivial⟩) rfl _ (fun _ h => h.keep [false, false, true, true, true, true] rfl) (fun _ _ h => h) (fun wx hw => ⟨0, 0, 0, o, oA, oC, ([] : List Statement), ?_, ?_, R39.okN_nil, ?_, ?_, ?_⟩)
  ·rfl
  ·rfl
  ·exact c39f3_
  ·first | assumption | omega
  ·intro P
   first
    | (rw [R39.in_stm (R39.LnK.of (by assumption) (by assumption) (by assumption) no_such_condition) (R39.len1 (by assumption)) c39f1_]; exact no_such_condition.line rfl)
    | (rw [List.append_nil]; first | exact .zero (R39.in_idle (by assumption)) | exact .err (R39.in_repl (by assumption) (by assumption)) (by assumption) | exact .err (R39.in_scan (by assumption) (by assumption) (by assumption)) (by assumption) | exact .zero (R39.in_none (R39.LnK.of (by assumption) (by assumption) (by assumption) no_such_condition) (R39.len0 (by assumption))) | exact .err (R39.in_nine (R39.LnK.of (by assumption) (by assumption) (by assumption) no_such_condition) (R39.len1 (by assumption)) c39f2_) (by decide) | exact .err (R39.in_three (R39.LnK.of (by assumption) (by assumption) (by assumption) no_such_condition) (R39.len1 (by assumption)) hk) (by decide))
 ·have h5w := h5
  have ⟨h5, h6⟩ := bor_false h5
  have h5 := of_decide_eq_false h5
  have h5l := List.length_pos_iff.2 h5
  have h6 := of_decide_eq_false h6
  refine sk_ (n_ (q_ ?_))
  refine drB [] 15 Ty.mixed ?_
  refine jp_ 0 rfl (fA 0 Ty.fi82_0) (jq_ 1 rfl (ld_ 1 Ty.sc68) (jq_ 2 rfl (ixF (k := 0) Row.enc_len (cells_ro rowsR) Tryd.underlying68 Ty.sz73) (jp_ 3 rfl (x_fieldAddr Ty.fi73_1 rfl (adr_add _ _ _)) (jq_ 4 rfl (ldF (k := 0) 1 Row.enc_len (cells_ro rowsR) Ty.sc9) (jp_ 5 rfl mv_ (jp_ 6 rfl (x_nilCheck rfl) (jp_ 7 rfl (fA 0 Ty.fi77_0) (jq_ 8 rfl (ld_ 2 Ty.sc22) (j1_ 9 ?_ gm_)))))))))
  refine jc0_ rfl (cl_ Ty.ca12) (fun w hS => f12_ok _ M mB w (Kp.of_ent hS 3 rfl) (hT.on hS (fun _ h => by cases h)) hy_ hy_) ?_
  have ha7 := R39.exV_len (m := lookK M) (s := ((rows.getD 0 default).text))
  refine jp_ 10 rfl mv_ (jp_ 11 rfl (ex_ 0) (jp_ 12 rfl (ex_ 1) (jp_ 13 rfl av_ (jp_ 14 rfl av_ ?_))))
  refine JA_done (by kernel_rfl) gm_ ?_
  refine n_ (q_ (q_ (g_ (s_ mv_ (s_ (x_neq_i rfl rfl) (z_ (xk_ [0, 1, 5, 6, 7, 8, 9, 41] ?_)))))))
  refine n_ ?_
  refine ifd (fun h8w h8 => ?_) (fun h8w h8 => ?_)
  ·refine q_ (g_ (r_ (ldN 1 [vL rowsA rows.length rowsC, vS cl, vB true] Ty.ag82 Ty.sz82) (s_ mv_ (c0 (cl_ Ty.ca91) (fun w hS => f91_ok rows _ _ cl true _ w (rno rowsR hS) hy_) (s_ av_ (o_ (stG 0 Ty.sz79 ?_)))))))
   refine z_ (n_ (rt_ (nr_ ?_)))
   refine JX_retsD [_, _] (Value.tuple #[_, _]) Tryd.results63 (fun w h => ⟨rfl, ⟨_, rfl, load_blkN 0 [vI ((rows.getD 0 default).number), vI (R39.exE (R39.replV (lookK M) ((rows.getD 0 default).text)))] h rfl Ty.ag79 Ty.sz79 rfl⟩, trivial⟩) rfl _ (fun _ h => h.keep [false, false, true, true, true, true] rfl) (fun _ _ h => h) (fun wx hw => ⟨0, (rows.getD 0 default).number, (R39.exE (R39.replV (lookK M) ((rows.getD 0 default).text))), o, oA, oC, ([] : List Statement), ?_, ?_, R39.okN_nil, ?_, ?_, ?_⟩)
   ·rfl
   ·rfl
   ·exact c39f3_
   ·first | assumption | omega
   ·intro P
    first
     | (rw [R39.in_stm (R39.LnK.of (by assumption) (by assumption) (by assumption) no_such_condition) (R39.len1 (by assumption)) c39f1_]; exact no_such_condition.line rfl)
     | (rw [List.append_nil]; first | exact .zero (R39.in_idle (by assumption)) | exact .err (R39.in_repl (by assumption) (by assumption)) (by assumption) | exact .err (R39.in_scan (by assumption) (by assumption) (by assumption)) (by assumption) | exact .zero (R39.in_none (R39.LnK.of (by assumption) (by assumption) (by assumption) no_such_condition) (R39.len0 (by assumption))) | exact .err (R39.in_nine (R39.LnK.of (by assumption) (by assumption) (by assumption) no_such_condition) (R39.len1 (by assumption)) c39f2_) (by decide) | exact .err (R39.in_three (R39.LnK.of (by assumption) (by assumption) (by assumption) no_such_condition) (R39.len1 (by assumption)) hk) (by decide))
  ·refine sk_ (n_ (q_ (g_ (s_ mv_ ?_))))
   refine JO_callB [] [] [Ent.blk b2 79 [vI 0, vI 0], Ent.blk b1 82 [vL rowsA rows.length rowsC, vS cl, vB true], Ent.blk r 77 [Value.map (some mB), pr, vL oA o.length oC], Ent.mp vS mB (M.map kvS), Ent.mp vS kb [([115, 101, 116], Value.func (.func 86) #[] #[]), ([112, 114, 111, 99], Value.func (.func 87) #[] #[]), ([101, 110, 100], Value.func (.func 88) #[] #[]), ([99, 97, 108, 108], Value.func (.func 89) #[] #[]), ([106, 111, 98], Value.func (.func 90) #[] #[]), ([115, 116, 101, 112], Value.func (.func 90) #[] #[]), ([100, 100], Value.func (.func 90) #[] #[])], Ent.row (.slice oA o.length oC) 40 4 o.length (o.flatMap Statement.enc)] rfl trivial (fun _ => x_call Ty.ca10 rfl) (fun _ h => h) (fun _ h => by cases h) (fun w hS => f10k_ok (R39.exV (R39.replV (lookK M) ((rows.getD 0 default).text))) w hy_) ?_
   rintro wc _ _ wbhB12 ⟨ro, roA, roC, rfl, rfl, roR, roL, hf9, hf10, hf11⟩ hc0 hB12
   have rowsR := rowsR.again hB12
   have hT := hT.again hB12
   have roR0 := roR.mono (lown_rangeF (w00 := w) hc0 hc0.fr.size)
   have roR := roR.mono (lown_range hc0)
   try simp only [List.length_cons, List.length_nil, Nat.zero_add, Nat.reduceAdd] at hf11
   refine s_ mv_ (s_ (ex_ 0) (s_ (ex_ 1) (s_ av_ (s_ av_ (z_ (n_ (q_ (q_ (g_ (s_ mv_ (s_ (x_neq_i rfl rfl) (z_ (n_ ?_)))))))))))))
   refine ifd (fun h13w h13 => ?_) (fun h13w h13 => ?_)
   ·refine q_ (g_ (r_ (ldN 1 [vL rowsA rows.length rowsC, vS cl, vB true] Ty.ag82 Ty.sz82) (s_ mv_ (c0 (cl_ Ty.ca91) (fun w hS => f91_ok rows _ _ cl true _ w (rno rowsR hS) hy_) (s_ av_ (o_ (stG 0 Ty.sz79 ?_)))))))
    refine z_ (n_ (rt_ (nr_ ?_)))
    refine JX_retsD [_, _] (Value.tuple #[_, _]) Tryd.results63 (fun w h => ⟨rfl, ⟨_, rfl, load_blkN 0 [vI ((rows.getD 0 default).number), vI (R39.scanE (R39.exV (R39.replV (lookK M) ((rows.getD 0 default).text))))] h rfl Ty.ag79 Ty.sz79 rfl⟩, trivial⟩) rfl _ (fun _ h => h.keep [false, false, true, true, true, true] rfl) (fun _ _ h => (hB12.back _ _ h)) (fun wx hw => ⟨0, (rows.getD 0 default).number, (R39.scanE (R39.exV (R39.replV (lookK M) ((rows.getD 0 default).text)))), o, oA, oC, ([] : List Statement), ?_, ?_, R39.okN_nil, ?_, ?_, ?_⟩)
    ·rfl
    ·rfl
    ·exact c39f3_
    ·first | assumption | omega
    ·intro P
     first
      | (rw [R39.in_stm (R39.LnK.of (by assumption) (by assumption) (by assumption) hf9) (R39.len1 (by assumption)) c39f1_]; exact no_such_condition.line rfl)
      | (rw [List.append_nil]; first | exact .zero (R39.in_idle (by assumption)) | exact .err (R39.in_repl (by assumption) (by assumption)) (by assumption) | exact .err (R39.in_scan (by assumption) (by assumption) (by assumption)) (by assumption) | exact .zero (R39.in_none (R39.LnK.of (by assumption) (by assumption) (by assumption) hf9) (R39.len0 (by assumption))) | exact .err (R39.in_nine (R39.LnK.of (by assumption) (by assumption) (by assumption) hf9) (R39.len1 (by assumption)) c39f2_) (by decide) | exact .err (R39.in_three (R39.LnK.of (by assumption) (by assumption) (by assumption) hf9) (R39.len1 (by assumption)) hk) (by decide))
   ·refine sk_ (n_ (q_ (q_ (g_ (s_ mv_ (s_ (lnS Tryd.underlying24) (s_ (x_eql_i rfl rfl) (z_ (n_ ?_)))))))))
    refine ifd (fun h14w h14 => ?_) (fun h14w h14 => ?_)
    ·refine q_ (g_ (js_ (vG [vI 0, vI 0]) (x_build (by kernel_rfl)) (s_ av_ (o_ (stG 0 Ty.sz79 ?_)))))
     refine z_ (n_ (rt_ (nr_ ?_)))
     refine JX_retsD [_, _] (Value.tuple #[_, _]) Tryd.results63 (fun w h => ⟨rfl, ⟨_, rfl, load_blkN 0 [vI 0, vI 0] h rfl Ty.ag79 Ty.sz79 rfl⟩, trivial⟩) rfl _ (fun _ h => h.keep [false, false, true, true, true, true] rfl) (fun _ _ h => (hB12.back _ _ h)) (fun wx hw => ⟨0, 0, 0, o, oA, oC, ([] : List Statement), ?_, ?_, R39.okN_nil, ?_, ?_, ?_⟩)
     ·rfl
     ·rfl
     ·exact c39f3_
     ·first | assumption | omega
     ·intro P
      first
       | (rw [R39.in_stm (R39.LnK.of (by assumption) (by assumption) (by assumption) hf9) (R39.len1 (by assumption)) c39f1_]; exact no_such_condition.line rfl)
       | (rw [List.append_nil]; first | exact .zero (R39.in_idle (by assumption)) | exact .err (R39.in_repl (by assumption) (by assumption)) (by assumption) | exact .err (R39.in_scan (by assumption) (by assumption) (by assumption)) (by assumption) | exact .zero (R39.in_none (R39.LnK.of (by assumption) (by assumption) (by assumption) hf9) (R39.len0 (by assumption))) | exact .err (R39.in_nine (R39.LnK.of (by assumption) (by assumption) (by assumption) hf9) (R39.len1 (by assumption)) c39f2_) (by decide) | exact .err (R39.in_three (R39.LnK.of (by assumption) (by assumption) (by assumption) hf9) (R39.len1 (by assumption)) hk) (by decide))
    ·refine sk_ (n_ (q_ (g_ (s_ mv_ (s_ mv_ (r_ (ixM (k := 0) (cells_ro roR) Tryd.underlying24 Ty.sz9) (r_ (ldM vS [] (cells_ro roR) Ty.sc9) ?_)))))))
     rcases R39.key_cases (ro.getD 0 []) with hk | hk | hk | hk | hk | hk | hk | hk
     ·refine JO_read (Value.tuple #[Value.func (.func 86) #[] #[], vB true]) rfl trivial (x_lookup_ok 4 (f := vS) (k := (ro.getD 0 [])) rfl rfl rfl Tryd.underlying100 (mapK_s Tryd.underlying9) Ty.ze124 (lk_hit (by exact hk))) ?_
      refine s_ mv_ (s_ (ex_ 0) (s_ (ex_ 1) (s_ av_ (s_ av_ (z_ (xk_ [0, 5, 6, 7, 10, 11, 12] ?_))))))
      refine n_ (q_ (q_ (g_ (s_ mv_ (jr_ (vB false) (z_ (n_ (iff_ (sk_ (n_ (q_ (g_ (s_ mv_ (s_ mv_ (r_ (ldN 1 [vL rowsA rows.length rowsC, vS cl, vB true] Ty.ag82 Ty.sz82) (s_ mv_ (c0 (x_callv (first := []) (caps := []) rfl Ty.ca86 rfl) (fun w hS => set_in _ rows _ _ cl ro roA roC w (rno rowsR hS) (rno roR hS) hy_) ?_)))))))))))))))))
      refine s_ (ex_ 0) (s_ (ex_ 1) (s_ av_ (o_ (stG 0 Ty.sz79 ?_))))
      refine z_ (n_ (rt_ ?_))
      refine JX_retsD [_, _] (Value.tuple #[_, _]) Tryd.results63 (fun w h => ⟨rfl, ⟨_, rfl, load_blkN 0 [vI ((rows.getD 0 default).number), vI 9] h rfl Ty.ag79 Ty.sz79 rfl⟩, trivial⟩) rfl _ (fun _ h => h.keep [false, false, true, true, true, true] rfl) (fun _ _ h => (hB12.back _ _ h)) (fun wx hw => ⟨0, (rows.getD 0 default).number, 9, o, oA, oC, ([] : List Statement), ?_, ?_, R39.okN_nil, ?_, ?_, ?_⟩)
      ·rfl
      ·rfl
      ·exact c39f3_
      ·first | assumption | omega
      ·intro P
       first
        | (rw [R39.in_stm (R39.LnK.of (by assumption) (by assumption) (by assumption) hf9) (R39.len1 (by assumption)) c39f1_]; exact no_such_condition.line rfl)
        | (rw [List.append_nil]; first | exact .zero (R39.in_idle (by assumption)) | exact .err (R39.in_repl (by assumption) (by assumption)) (by assumption) | exact .err (R39.in_scan (by assumption) (by assumption) (by assumption)) (by assumption) | exact .zero (R39.in_none (R39.LnK.of (by assumption) (by assumption) (by assumption) hf9) (R39.len0 (by assumption))) | exact .err (R39.in_nine (R39.LnK.of (by assumption) (by assumption) (by assumption) hf9) (R39.len1 (by assumption)) c39f2_) (by decide) | exact .err (R39.in_three (R39.LnK.of (by assumption) (by assumption) (by assumption) hf9) (R39.len1 (by assumption)) hk) (by decide))
     ·refine JO_read (Value.tuple #[Value.func (.func 87) #[] #[], vB true]) rfl trivial (x_lookup_ok 4 (f := vS) (k := (ro.getD 0 [])) rfl rfl rfl Tryd.underlying100 (mapK_s Tryd.underlying9) Ty.ze124 (lk_ne c39f0_ (lk_hit (by exact hk)))) ?_
      refine s_ mv_ (s_ (ex_ 0) (s_ (ex_ 1) (s_ av_ (s_ av_ (z_ (xk_ [0, 5, 6, 7, 10, 11, 12] ?_))))))
      refine n_ (q_ (q_ (g_ (s_ mv_ (jr_ (vB false) (z_ (n_ (iff_ (sk_ (n_ (q_ (g_ (s_ mv_ (s_ mv_ (r_ (ldN 1 [vL rowsA rows.length rowsC, vS cl, vB true] Ty.ag82 Ty.sz82) (s_ mv_ (c0 (x_callv (first := []) (caps := []) rfl Ty.ca87 rfl) (fun w hS => proc_in _ rows _ _ cl ro roA roC w (rno rowsR hS) (rno roR hS) hy_) ?_)))))))))))))))))
      refine s_ (ex_ 0) (s_ (ex_ 1) (s_ av_ (o_ (stG 0 Ty.sz79 ?_))))
      refine z_ (n_ (rt_ ?_))
      refine JX_retsD [_, _] (Value.tuple #[_, _]) Tryd.results63 (fun w h => ⟨rfl, ⟨_, rfl, load_blkN 0 [vI ((rows.getD 0 default).number), vI 9] h rfl Ty.ag79 Ty.sz79 rfl⟩, trivial⟩) rfl _ (fun _ h => h.keep [false, false, true, true, true, true] rfl) (fun _ _ h => (hB12.back _ _ h)) (fun wx hw => ⟨0, (rows.getD 0 default).number, 9, o, oA, oC, ([] : List Statement), ?_, ?_, R39.okN_nil, ?_, ?_, ?_⟩)
      ·rfl
      ·rfl
      ·exact c39f3_
      ·first | assumption | omega
      ·intro P
       first
        | (rw [R39.in_stm (R39.LnK.of (by assumption) (by assumption) (by assumption) hf9) (R39.len1 (by assumption)) c39f1_]; exact no_such_condition.line rfl)
        | (rw [List.append_nil]; first | exact .zero (R39.in_idle (by assumption)) | exact .err (R39.in_repl (by assumption) (by assumption)) (by assumption) | exact .err (R39.in_scan (by assumption) (by assumption) (by assumption)) (by assumption) | exact .zero (R39.in_none (R39.LnK.of (by assumption) (by assumption) (by assumption) hf9) (R39.len0 (by assumption))) | exact .err (R39.in_nine (R39.LnK.of (by assumption) (by assumption) (by assumption) hf9) (R39.len1 (by assumption)) c39f2_) (by decide) | exact .err (R39.in_three (R39.LnK.of (by assumption) (by assumption) (by assumption) hf9) (R39.len1 (by assumption)) hk) (by decide))
     ·refine JO_read (Value.tuple #[Value.func (.func 88) #[] #[], vB true]) rfl trivial (x_lookup_ok 4 (f := vS) (k := (ro.getD 0 [])) rfl rfl rfl Tryd.underlying100 (mapK_s Tryd.underlying9) Ty.ze124 (lk_ne c39f0_ (lk_ne c39f0_ (lk_hit (by exact hk))))) ?_
      refine s_ mv_ (s_ (ex_ 0) (s_ (ex_ 1) (s_ av_ (s_ av_ (z_ (xk_ [0, 5, 6, 7, 10, 11, 12] ?_))))))
      refine n_ (q_ (q_ (g_ (s_ mv_ (jr_ (vB false) (z_ (n_ (iff_ (sk_ (n_ (q_ (g_ (s_ mv_ (s_ mv_ (r_ (ldN 1 [vL rowsA rows.length rowsC, vS cl, vB true] Ty.ag82 Ty.sz82) (s_ mv_ (c0 (x_callv (first := []) (caps := []) rfl Ty.ca88 rfl) (fun w hS => f88_ok _ rows _ _ cl true ro roA roC w (rno rowsR hS) (rno roR hS) hy_) ?_)))))))))))))))))
      refine s_ (ex_ 0) (s_ (ex_ 1) (s_ av_ (o_ (stG 0 Ty.sz79 ?_))))
      refine z_ (n_ (rt_ ?_))
      refine JX_retsD [_, _] (Value.tuple #[_, _]) Tryd.results63 (fun w h => ⟨rfl, ⟨_, rfl, load_blkN 0 [vI ((rows.getD 0 default).number), vI 9] h rfl Ty.ag79 Ty.sz79 rfl⟩, trivial⟩) rfl _ (fun _ h => h.keep [false, false, true, true, true, true] rfl) (fun _ _ h => (hB12.back _ _ h)) (fun wx hw => ⟨0, (rows.getD 0 default).number, 9, o, oA, oC, ([] : List Statement), ?_, ?_, R39.okN_nil, ?_, ?_, ?_⟩)
      ·rfl
      ·rfl
      ·exact c39f3_
      ·first | assumption | omega
      ·intro P
       first
        | (rw [R39.in_stm (R39.LnK.of (by assumption) (by assumption) (by assumption) hf9) (R39.len1 (by assumption)) c39f1_]; exact no_such_condition.line rfl)
        | (rw [List.append_nil]; first | exact .zero (R39.in_idle (by assumption)) | exact .err (R39.in_repl (by assumption) (by assumption)) (by assumption) | exact .err (R39.in_scan (by assumption) (by assumption) (by assumption)) (by assumption) | exact .zero (R39.in_none (R39.LnK.of (by assumption) (by assumption) (by assumption) hf9) (R39.len0 (by assumption))) | exact .err (R39.in_nine (R39.LnK.of (by assumption) (by assumption) (by assumption) hf9) (R39.len1 (by assumption)) c39f2_) (by decide) | exact .err (R39.in_three (R39.LnK.of (by assumption) (by assumption) (by assumption) hf9) (R39.len1 (by assumption)) hk) (by decide))
     ·refine JO_read (Value.tuple #[Value.func (.func 89) #[] #[], vB true]) rfl trivial (x_lookup_ok 4 (f := vS) (k := (ro.getD 0 [])) rfl rfl rfl Tryd.underlying100 (mapK_s Tryd.underlying9) Ty.ze124 (lk_ne c39f0_ (lk_ne c39f0_ (lk_ne c39f0_ (lk_hit (by exact hk)))))) ?_
      refine s_ mv_ (s_ (ex_ 0) (s_ (ex_ 1) (s_ av_ (s_ av_ (z_ (xk_ [0, 5, 6, 7, 10, 11, 12] ?_))))))
      refine n_ (q_ (q_ (g_ (s_ mv_ (jr_ (vB false) (z_ (n_ (iff_ (sk_ (n_ (q_ (g_ (s_ mv_ (s_ mv_ (r_ (ldN 1 [vL rowsA rows.length rowsC, vS cl, vB true] Ty.ag82 Ty.sz82) (s_ mv_ (c0 (x_callv (first := []) (caps := []) rfl Ty.ca89 rfl) (fun w hS => call_in _ rows _ _ cl ro roA roC w (rno rowsR hS) (rno roR hS) hy_) ?_)))))))))))))))))
      refine s_ (ex_ 0) (s_ (ex_ 1) (s_ av_ (o_ (stG 0 Ty.sz79 ?_))))
      refine z_ (n_ (rt_ ?_))
      refine JX_retsD [_, _] (Value.tuple #[_, _]) Tryd.results63 (fun w h => ⟨rfl, ⟨_, rfl, load_blkN 0 [vI ((rows.getD 0 default).number), vI 9] h rfl Ty.ag79 Ty.sz79 rfl⟩, trivial⟩) rfl _ (fun _ h => h.keep [false, false, true, true, true, true] rfl) (fun _ _ h => (hB12.back _ _ h)) (fun wx hw => ⟨0, (rows.getD 0 default).number, 9, o, oA, oC, ([] : List Statement), ?_, ?_, R39.okN_nil, ?_, ?_, ?_⟩)
      ·rfl
      ·rfl
      ·exact c39f3_
      ·first | assumption | omega
      ·intro P
       first
        | (rw [R39.in_stm (R39.LnK.of (by assumption) (by assumption) (by assumption) hf9) (R39.len1 (by assumption)) c39f1_]; exact no_such_condition.line rfl)
        | (rw [List.append_nil]; first | exact .zero (R39.in_idle (by assumption)) | exact .err (R39.in_repl (by assumption) (by assumption)) (by assumption) | exact .err (R39.in_scan (by assumption) (by assumption) (by assumption)) (by assumption) | exact .zero (R39.in_none (R39.LnK.of (by assumption) (by assumption) (by assumption) hf9) (R39.len0 (by assumption))) | exact .err (R39.in_nine (R39.LnK.of (by assumption) (by assumption) (by assumption) hf9) (R39.len1 (by assumption)) c39f2_) (by decide) | exact .err (R39.in_three (R39.LnK.of (by assumption) (by assumption) (by assumption) hf9) (R39.len1 (by assumption)) hk) (by decide))
     ·refine JO_read (Value.tuple #[Value.func (.func 90) #[] #[], vB true]) rfl trivial (x_lookup_ok 4 (f := vS) (k := (ro.getD 0 [])) rfl rfl rfl Tryd.underlying100 (mapK_s Tryd.underlying9) Ty.ze124 (lk_ne c39f0_ (lk_ne c39f0_ (lk_ne c39f0_ (lk_ne c39f0_ (lk_hit (by exact hk))))))) ?_
      refine s_ mv_ (s_ (ex_ 0) (s_ (ex_ 1) (s_ av_ (s_ av_ (z_ (xk_ [0, 5, 6, 7, 10, 11, 12] ?_))))))
      refine n_ (q_ (q_ (g_ (s_ mv_ (jr_ (vB false) (z_ (n_ (iff_ (sk_ (n_ (q_ (g_ (s_ mv_ (s_ mv_ (r_ (ldN 1 [vL rowsA rows.length rowsC, vS cl, vB true] Ty.ag82 Ty.sz82) (s_ mv_ ?_))))))))))))))))
      refine JO_callB (Lown [Ent.blk r 77 [Value.map (some mB), pr, vL oA o.length oC], Ent.row (.slice oA o.length oC) 40 4 o.length (o.flatMap Statement.enc)]) [Ent.blk r 77 [Value.map (some mB), pr, vL oA o.length oC], Ent.row (.slice oA o.length oC) 40 4 o.length (o.flatMap Statement.enc)] [Ent.blk b2 79 [vI 0, vI 0], Ent.blk b1 82 [vL rowsA rows.length rowsC, vS cl, vB true], Ent.mp vS mB (M.map kvS), Ent.mp vS kb [([115, 101, 116], Value.func (.func 86) #[] #[]), ([112, 114, 111, 99], Value.func (.func 87) #[] #[]), ([101, 110, 100], Value.func (.func 88) #[] #[]), ([99, 97, 108, 108], Value.func (.func 89) #[] #[]), ([106, 111, 98], Value.func (.func 90) #[] #[]), ([115, 116, 101, 112], Value.func (.func 90) #[] #[]), ([100, 100], Value.func (.func 90) #[] #[])]] rfl trivial (fun _ => x_callv (first := []) (caps := []) rfl Ty.ca90 rfl) (fun _ h => ((((((h.front 4 _ rfl).front 4 _ rfl).front 3 _ rfl).front 3 _ rfl).front 5 _ rfl).front 5 _ rfl).keep [true, true, true, true, true, true] rfl) lown_mem (fun w hS => f90_ok r (Value.map (some mB)) pr o oA oC o.length rows rowsA rowsC cl true ro roA roC w (rowsR.on hS lown_mem) (roR.on hS lown_mem) hy_ hy_ hy_ hy_ hy_ hy_ hy_ (hS.give lown_in)) ?_
      rintro wc _ _ wbhB24 ⟨n15, fl16, fc17, y18, yA19, yC20, rl, rlA, rlC, rfl, rfl, rlR, rlL, hf21, hf22, hf23⟩ hc0 hB24
      have rowsR := rowsR.again hB24
      have roR0 := roR0.againF hB24
      have roR := roR.again hB24
      have hT := hT.again hB24
      have rlR0 := rlR.mono (lown_rangeAF (w00 := w) hc0 (hB12.back _ _ hc0).fr.size)
      have rlR := rlR.mono (lown_rangeA hc0)
      refine s_ (ex_ 0) (s_ (ex_ 1) (s_ av_ (o_ (stG 2 Ty.sz79 ?_))))
      refine z_ (n_ (rt_ ?_))
      refine JX_retsD [_, _] (Value.tuple #[_, _]) Tryd.results63 (fun w h => ⟨rfl, ⟨_, rfl, load_blkN 2 [vI fl16, vI fc17] h rfl Ty.ag79 Ty.sz79 rfl⟩, trivial⟩) rfl [Ent.blk r 77 [Value.map (some mB), pr, vL yA19 y18.length yC20], Ent.mp vS mB (M.map kvS), Ent.mp vS kb [([115, 101, 116], Value.func (.func 86) #[] #[]), ([112, 114, 111, 99], Value.func (.func 87) #[] #[]), ([101, 110, 100], Value.func (.func 88) #[] #[]), ([99, 97, 108, 108], Value.func (.func 89) #[] #[]), ([106, 111, 98], Value.func (.func 90) #[] #[]), ([115, 116, 101, 112], Value.func (.func 90) #[] #[]), ([100, 100], Value.func (.func 90) #[] #[])], Ent.row (.slice yA19 y18.length yC20) 40 4 y18.length (y18.flatMap Statement.enc)] (fun _ h => ((((h.front 1 _ rfl).front 5 _ rfl).front 5 _ rfl).front 3 _ rfl).keep [true, true, true, true, false, false] rfl) (fun _ _ h => (hB12.back _ _ (hB24.back _ _ h))) (fun wx hw => ⟨n15, fl16, fc17, y18, yA19, yC20, (y18.drop o.length), ?_, ?_, (R39.StmJ.kept hf21 (Kp.and (roR0.againF (((((hw.front 1 _ rfl).front 5 _ rfl).front 5 _ rfl).front 3 _ rfl).keep [true, true, true, true, false, false] rfl)).kp (Kp.and (rlR0.againF (((((hw.front 1 _ rfl).front 5 _ rfl).front 5 _ rfl).front 3 _ rfl).keep [true, true, true, true, false, false] rfl)).kp (Kp.pure (by first | assumption | exact Nat.zero_le _))))), ?_, ?_, ?_⟩)
      ·rfl
      ·rfl
      ·first | exact (List.append_nil o).symm | exact hf21.new
      ·first | assumption | omega
      ·intro P
       first
        | (rw [R39.in_stm (R39.LnK.of (by assumption) (by assumption) (by assumption) hf9) (R39.len1 (by assumption)) c39f1_]; exact hf21.line rfl)
        | (rw [List.append_nil]; first | exact .zero (R39.in_idle (by assumption)) | exact .err (R39.in_repl (by assumption) (by assumption)) (by assumption) | exact .err (R39.in_scan (by assumption) (by assumption) (by assumption)) (by assumption) | exact .zero (R39.in_none (R39.LnK.of (by assumption) (by assumption) (by assumption) hf9) (R39.len0 (by assumption))) | exact .err (R39.in_nine (R39.LnK.of (by assumption) (by assumption) (by assumption) hf9) (R39.len1 (by assumption)) c39f2_) (by decide) | exact .err (R39.in_three (R39.LnK.of (by assumption) (by assumption) (by assumption) hf9) (R39.len1 (by assumption)) hk) (by decide))
     ·refine JO_read (Value.tuple #[Value.func (.func 90) #[] #[], vB true]) rfl trivial (x_lookup_ok 4 (f := vS) (k := (ro.getD 0 [])) rfl rfl rfl Tryd.underlying100 (mapK_s Tryd.underlying9) Ty.ze124 (lk_ne c39f0_ (lk_ne c39f0_ (lk_ne c39f0_ (lk_ne c39f0_ (lk_ne c39f0_ (lk_hit (by exact hk)))))))) ?_
      refine s_ mv_ (s_ (ex_ 0) (s_ (ex_ 1) (s_ av_ (s_ av_ (z_ (xk_ [0, 5, 6, 7, 10, 11, 12] ?_))))))
      refine n_ (q_ (q_ (g_ (s_ mv_ (jr_ (vB false) (z_ (n_ (iff_ (sk_ (n_ (q_ (g_ (s_ mv_ (s_ mv_ (r_ (ldN 1 [vL rowsA rows.length rowsC, vS cl, vB true] Ty.ag82 Ty.sz82) (s_ mv_ ?_))))))))))))))))
      refine JO_callB (Lown [Ent.blk r 77 [Value.map (some mB), pr, vL oA o.length oC], Ent.row (.slice oA o.length oC) 40 4 o.length (o.flatMap Statement.enc)]) [Ent.blk r 77 [Value.map (some mB), pr, vL oA o.length oC], Ent.row (.slice oA o.length oC) 40 4 o.length (o.flatMap Statement.enc)] [Ent.blk b2 79 [vI 0, vI 0], Ent.blk b1 82 [vL rowsA rows.length rowsC, vS cl, vB true], Ent.mp vS mB (M.map kvS), Ent.mp vS kb [([115, 101, 116], Value.func (.func 86) #[] #[]), ([112, 114, 111, 99], Value.func (.func 87) #[] #[]), ([101, 110, 100], Value.func (.func 88) #[] #[]), ([99, 97, 108, 108], Value.func (.func 89) #[] #[]), ([106, 111, 98], Value.func (.func 90) #[] #[]), ([115, 116, 101, 112], Value.func (.func 90) #[] #[]), ([100, 100], Value.func (.func 90) #[] #[])]] rfl trivial (fun _ => x_callv (first := []) (caps := []) rfl Ty.ca90 rfl) (fun _ h => ((((((h.front 4 _ rfl).front 4 _ rfl).front 3 _ rfl).front 3 _ rfl).front 5 _ rfl).front 5 _ rfl).keep [true, true, true, true, true, true] rfl) lown_mem (fun w hS => f90_ok r (Value.map (some mB)) pr o oA oC o.length rows rowsA rowsC cl true ro roA roC w (rowsR.on hS lown_mem) (roR.on hS lown_mem) hy_ hy_ hy_ hy_ hy_ hy_ hy_ (hS.give lown_in)) ?_
      rintro wc _ _ wbhB35 ⟨n25, fl26, fc27, y28, yA29, yC30, rl31, rl31A, rl31C, rfl, rfl, rl31R, rl31L, hf32, hf33, hf34⟩ hc0 hB35
      have rowsR := rowsR.again hB35
      have roR0 := roR0.againF hB35
      have roR := roR.again hB35
      have hT := hT.again hB35
      have rl31R0 := rl31R.mono (lown_rangeAF (w00 := w) hc0 (hB12.back _ _ hc0).fr.size)
      have rl31R := rl31R.mono (lown_rangeA hc0)
      refine s_ (ex_ 0) (s_ (ex_ 1) (s_ av_ (o_ (stG 2 Ty.sz79 ?_))))
      refine z_ (n_ (rt_ ?_))
      refine JX_retsD [_, _] (Value.tuple #[_, _]) Tryd.results63 (fun w h => ⟨rfl, ⟨_, rfl, load_blkN 2 [vI fl26, vI fc27] h rfl Ty.ag79 Ty.sz79 rfl⟩, trivial⟩) rfl [Ent.blk r 77 [Value.map (some mB), pr, vL yA29 y28.length yC30], Ent.mp vS mB (M.map kvS), Ent.mp vS kb [([115, 101, 116], Value.func (.func 86) #[] #[]), ([112, 114, 111, 99], Value.func (.func 87) #[] #[]), ([101, 110, 100], Value.func (.func 88) #[] #[]), ([99, 97, 108, 108], Value.func (.func 89) #[] #[]), ([106, 111, 98], Value.func (.func 90) #[] #[]), ([115, 116, 101, 112], Value.func (.func 90) #[] #[]), ([100, 100], Value.func (.func 90) #[] #[])], Ent.row (.slice yA29 y28.length yC30) 40 4 y28.length (y28.flatMap Statement.enc)] (fun _ h => ((((h.front 1 _ rfl).front 5 _ rfl).front 5 _ rfl).front 3 _ rfl).keep [true, true, true, true, false, false] rfl) (fun _ _ h => (hB12.back _ _ (hB35.back _ _ h))) (fun wx hw => ⟨n25, fl26, fc27, y28, yA29, yC30, (y28.drop o.length), ?_, ?_, (R39.StmJ.kept hf32 (Kp.and (roR0.againF (((((hw.front 1 _ rfl).front 5 _ rfl).front 5 _ rfl).front 3 _ rfl).keep [true, true, true, true, false, false] rfl)).kp (Kp.and (rl31R0.againF (((((hw.front 1 _ rfl).front 5 _ rfl).front 5 _ rfl).front 3 _ rfl).keep [true, true, true, true, false, false] rfl)).kp (Kp.pure (by first | assumption | exact Nat.zero_le _))))), ?_, ?_, ?_⟩)
      ·rfl
      ·rfl
      ·first | exact (List.append_nil o).symm | exact hf32.new
      ·first | assumption | omega
      ·intro P
       first
        | (rw [R39.in_stm (R39.LnK.of (by assumption) (by assumption) (by assumption) hf9) (R39.len1 (by assumption)) c39f1_]; exact hf32.line rfl)
        | (rw [List.append_nil]; first | exact .zero (R39.in_idle (by assumption)) | exact .err (R39.in_repl (by assumption) (by assumption)) (by assumption) | exact .err (R39.in_scan (by assumption) (by assumption) (by assumption)) (by assumption) | exact .zero (R39.in_none (R39.LnK.of (by assumption) (by assumption) (by assumption) hf9) (R39.len0 (by assumption))) | exact .err (R39.in_nine (R39.LnK.of (by assumption) (by assumption) (by assumption) hf9) (R39.len1 (by assumption)) c39f2_) (by decide) | exact .err (R39.in_three (R39.LnK.of (by assumption) (by assumption) (by assumption) hf9) (R39.len1 (by assumption)) hk) (by decide))
     ·refine JO_read (Value.tuple #[Value.func (.func 90) #[] #[], vB true]) rfl trivial (x_lookup_ok 4 (f := vS) (k := (ro.getD 0 [])) rfl rfl rfl Tryd.underlying100 (mapK_s Tryd.underlying9) Ty.ze124 (lk_ne c39f0_ (lk_ne c39f0_ (lk_ne c39f0_ (lk_ne c39f0_ (lk_ne c39f0_ (lk_ne c39f0_ (lk_hit (by exact hk))))))))) ?_
      refine s_ mv_ (s_ (ex_ 0) (s_ (ex_ 1) (s_ av_ (s_ av_ (z_ (xk_ [0, 5, 6, 7, 10, 11, 12] ?_))))))
      refine n_ (q_ (q_ (g_ (s_ mv_ (jr_ (vB false) (z_ (n_ (iff_ (sk_ (n_ (q_ (g_ (s_ mv_ (s_ mv_ (r_ (ldN 1 [vL rowsA rows.length rowsC, vS cl, vB true] Ty.ag82 Ty.sz82) (s_ mv_ ?_))))))))))))))))
      refine JO_callB (Lown [Ent.blk r 77 [Value.map (some mB), pr, vL oA o.length oC], Ent.row (.slice oA o.length oC) 40 4 o.length (o.flatMap Statement.enc)]) [Ent.blk r 77 [Value.map (some mB), pr, vL oA o.length oC], Ent.row (.slice oA o.length oC) 40 4 o.length (o.flatMap Statement.enc)] [Ent.blk b2 79 [vI 0, vI 0], Ent.blk b1 82 [vL rowsA rows.length rowsC, vS cl, vB true], Ent.mp vS mB (M.map kvS), Ent.mp vS kb [([115, 101, 116], Value.func (.func 86) #[] #[]), ([112, 114, 111, 99], Value.func (.func 87) #[] #[]), ([101, 110, 100], Value.func (.func 88) #[] #[]), ([99, 97, 108, 108], Value.func (.func 89) #[] #[]), ([106, 111, 98], Value.func (.func 90) #[] #[]), ([115, 116, 101, 112], Value.func (.func 90) #[] #[]), ([100, 100], Value.func (.func 90) #[] #[])]] rfl trivial (fun _ => x_callv (first := []) (caps := []) rfl Ty.ca90 rfl) (fun _ h => ((((((h.front 4 _ rfl).front 4 _ rfl).front 3 _ rfl).front 3 _ rfl).front 5 _ rfl).front 5 _ rfl).keep [true, true, true, true, true, true] rfl) lown_mem (fun w hS => f90_ok r (Value.map (some mB)) pr o oA oC o.length rows rowsA rowsC cl true ro roA roC w (rowsR.on hS lown_mem) (roR.on hS lown_mem) hy_ hy_ hy_ hy_ hy_ hy_ hy_ (hS.give lown_in)) ?_
      rintro wc _ _ wbhB46 ⟨n36, fl37, fc38, y39, yA40, yC41, rl42, rl42A, rl42C, rfl, rfl, rl42R, rl42L, hf43, hf44, hf45⟩ hc0 hB46
      have rowsR := rowsR.again hB46
      have roR0 := roR0.againF hB46
      have roR := roR.again hB46
      have hT := hT.again hB46
      have rl42R0 := rl42R.mono (lown_rangeAF (w00 := w) hc0 (hB12.back _ _ hc0).fr.size)
      have rl42R := rl42R.mono (lown_rangeA hc0)
      refine s_ (ex_ 0) (s_ (ex_ 1) (s_ av_ (o_ (stG 2 Ty.sz79 ?_))))
      refine z_ (n_ (rt_ ?_))
      refine JX_retsD [_, _] (Value.tuple #[_, _]) Tryd.results63 (fun w h => ⟨rfl, ⟨_, rfl, load_blkN 2 [vI fl37, vI fc38] h rfl Ty.ag79 Ty.sz79 rfl⟩, trivial⟩) rfl [Ent.blk r 77 [Value.map (some mB), pr, vL yA40 y39.length yC41], Ent.mp vS mB (M.map kvS), Ent.mp vS kb [([115, 101, 116], Value.func (.func 86) #[] #[]), ([112, 114, 111, 99], Value.func (.func 87) #[] #[]), ([101, 110, 100], Value.func (.func 88) #[] #[]), ([99, 97, 108, 108], Value.func (.func 89) #[] #[]), ([106, 111, 98], Value.func (.func 90) #[] #[]), ([115, 116, 101, 112], Value.func (.func 90) #[] #[]), ([100, 100], Value.func (.func 90) #[] #[])], Ent.row (.slice yA40 y39.length yC41) 40 4 y39.length (y39.flatMap Statement.enc)] (fun _ h => ((((h.front 1 _ rfl).front 5 _ rfl).front 5 _ rfl).front 3 _ rfl).keep [true, true, true, true, false, false] rfl) (fun _ _ h => (hB12.back _ _ (hB46.back _ _ h))) (fun wx hw => ⟨n36, fl37, fc38, y39, yA40, yC41, (y39.drop o.length), ?_, ?_, (R39.StmJ.kept hf43 (Kp.and (roR0.againF (((((hw.front 1 _ rfl).front 5 _ rfl).front 5 _ rfl).front 3 _ rfl).keep [true, true, true, true, false, false] rfl)).kp (Kp.and (rl42R0.againF (((((hw.front 1 _ rfl).front 5 _ rfl).front 5 _ rfl).front 3 _ rfl).keep [true, true, true, true, false, false] rfl)).kp (Kp.pure (by first | assumption | exact Nat.zero_le _))))), ?_, ?_, ?_⟩)
      ·rfl
      ·rfl
      ·first | exact (List.append_nil o).symm | exact hf43.new
      ·first | assumption | omega
      ·intro P
       first
        | (rw [R39.in_stm (R39.LnK.of (by assumption) (by assumption) (by assumption) hf9) (R39.len1 (by assumption)) c39f1_]; exact hf43.line rfl)
        | (rw [List.append_nil]; first | exact .zero (R39.in_idle (by assumption)) | exact .err (R39.in_repl (by assumption) (by assumption)) (by assumption) | exact .err (R39.in_scan (by assumption) (by assumption) (by assumption)) (by assumption) | exact .zero (R39.in_none (R39.LnK.of (by assumption) (by assumption) (by assumption) hf9) (R39.len0 (by assumption))) | exact .err (R39.in_nine (R39.LnK.of (by assumption) (by assumption) (by assumption) hf9) (R39.len1 (by assumption)) c39f2_) (by decide) | exact .err (R39.in_three (R39.LnK.of (by assumption) (by assumption) (by assumption) hf9) (R39.len1 (by assumption)) hk) (by decide))
     ·obtain ⟨hn0, hn1, hn2, hn3, hn4, hn5, hn6⟩ := hk
      have hk := R39.keys_none hn0 hn1 hn2 hn3 hn4 hn5 hn6
      refine JO_read (Value.tuple #[Value.nilFunc, vB false]) rfl trivial (x_lookup_ok 4 (f := vS) (k := (ro.getD 0 [])) rfl rfl rfl Tryd.underlying100 (mapK_s Tryd.underlying9) Ty.ze124 (lk_ne c39f0_ (lk_ne c39f0_ (lk_ne c39f0_ (lk_ne c39f0_ (lk_ne c39f0_ (lk_ne c39f0_ (lk_ne c39f0_ lk_nil)))))))) ?_
      refine s_ mv_ (s_ (ex_ 0) (s_ (ex_ 1) (s_ av_ (s_ av_ (z_ (xk_ [0, 5, 6, 7, 10, 11, 12] ?_))))))
      refine n_ (q_ (q_ (g_ (s_ mv_ (jr_ (vB true) (z_ (n_ (ift (q_ (g_ (r_ (ldN 1 [vL rowsA rows.length rowsC, vS cl, vB true] Ty.ag82 Ty.sz82) (c0 (cl_ Ty.ca91) (fun w hS => f91_ok rows _ _ cl true 3 w (rno rowsR hS) hy_) (s_ av_ (o_ (stG 0 Ty.sz79 ?_)))))))))))))))
      refine z_ (n_ (rt_ (nr_ ?_)))
      refine JX_retsD [_, _] (Value.tuple #[_, _]) Tryd.results63 (fun w h => ⟨rfl, ⟨_, rfl, load_blkN 0 [vI ((rows.getD 0 default).number), vI 3] h rfl Ty.ag79 Ty.sz79 rfl⟩, trivial⟩) rfl _ (fun _ h => h.keep [false, false, true, true, true, true] rfl) (fun _ _ h => (hB12.back _ _ h)) (fun wx hw => ⟨0, (rows.getD 0 default).number, 3, o, oA, oC, ([] : List Statement), ?_, ?_, R39.okN_nil, ?_, ?_, ?_⟩)
      ·rfl
      ·rfl
      ·exact c39f3_
      ·first | assumption | omega
      ·intro P
       first
        | (rw [R39.in_stm (R39.LnK.of (by assumption) (by assumption) (by assumption) hf9) (R39.len1 (by assumption)) c39f1_]; exact no_such_condition.line rfl)
        | (rw [List.append_nil]; first | exact .zero (R39.in_idle (by assumption)) | exact .err (R39.in_repl (by assumption) (by assumption)) (by assumption) | exact .err (R39.in_scan (by assumption) (by assumption) (by assumption)) (by assumption) | exact .zero (R39.in_none (R39.LnK.of (by assumption) (by assumption) (by assumption) hf9) (R39.len0 (by assumption))) | exact .err (R39.in_nine (R39.LnK.of (by assumption) (by assumption) (by assumption) hf9) (R39.len1 (by assumption)) c39f2_) (by decide) | exact .err (R39.in_three (R39.LnK.of (by assumption) (by assumption) (by assumption) hf9) (R39.len1 (by assumption)) hk) (by decide))
end Go.Proofs.YtbfiibgmgopnaaaDoor

namespace Go.Proofs.YtbfiibgmgopnaaaDoor
open Go.GV
namespace R39
theorem LnJ.okA {f : List (Bytes × Pr) → Res (Nat × RS)} {g : List (Bytes × Pr) → RS} {n fl fc : Int} (h : ∀ P, LnJ (f P) n fl fc (g P)) (hc : ¬ fc ≠ 0) : ∃ k : Nat, n = k ∧ ∀ P, f P = .ok (k, g P) := by
  rcases h [] with ⟨k, _, hn, _⟩ | ⟨_, h2⟩
  · refine ⟨k, hn, fun P => ?_⟩
    rcases h P with ⟨k2, hr, hn2, _⟩ | ⟨_, h2⟩
    · have : k2 = k := by omega
      rw [hr, this]
    · exact absurd h2 hc
  · exact absurd h2 hc
theorem LnJ.erA {f : List (Bytes × Pr) → Res (Nat × RS)} {g : List (Bytes × Pr) → RS} {n fl fc : Int} (h : ∀ P, LnJ (f P) n fl fc (g P)) (hc : fc ≠ 0) : ∀ P, f P = .error (fl, fc) := fun P => by
  rcases h P with ⟨_, _, _, _, h2⟩ | ⟨h1, _⟩
  · exact absurd h2 hc
  · exact h1
def RdJ (R : Res RS) (fl fc : Int) (s : RS) : Prop := (R = .ok s ∧ fl = 0 ∧ fc = 0) ∨ (R = .error (fl, fc) ∧ fc ≠ 0)
section
variable {cl : Bytes} {rows X : List Row} {s0 s s' : RS} {k : Nat} {e : Int × Int}
theorem row_head {l : List Row} (h : 0 < l.length) : l = l.getD 0 default :: l.drop 1 := by
  have := dropL h default
  rwa [List.drop_zero] at this
theorem drop_more (l : List Row) (k : Nat) : (l.drop 1).drop k = l.drop (k + 1) := by rw [List.drop_drop, Nat.add_comm]
theorem read_step (h : readIn cl rows s0 = readIn cl X s) (hx : 0 < X.length) (hk : lineIn cl (X.getD 0 default) (X.drop 1) s = .ok (k, s')) : readIn cl rows s0 = readIn cl (X.drop (k + 1)) s' := by
  rw [h, row_head hx, readIn_cons, hk]
  show readIn cl ((X.drop 1).drop k) s' = _
  rw [drop_more, ← row_head hx]
theorem read_err (h : readIn cl rows s0 = readIn cl X s) (hx : 0 < X.length) (hk : lineIn cl (X.getD 0 default) (X.drop 1) s = .error e) : readIn cl rows s0 = .error e := by
  rw [h, row_head hx, readIn_cons, hk]
theorem read_done (h : readIn cl rows s0 = readIn cl X s) (hx : ¬ 0 < X.length) : readIn cl rows s0 = .ok s := by
  have : X = [] := List.length_eq_zero_iff.1 (by omega)
  rw [h, this]; rfl
end
section
variable {S : List Nat} {w : World} {o z y N : List Statement}
theorem kept_start : Kp S w (okL Statement.ok (o.drop o.length)) := by rw [List.drop_length]; exact okN_nil
theorem kept_more (h : y = z ++ N) (hz : z = o ++ z.drop o.length) (k1 : Kp S w (okL Statement.ok (z.drop o.length))) (k2 : Kp S w (okL Statement.ok N)) : Kp S w (okL Statement.ok (y.drop o.length)) := by
  have e : y.drop o.length = z.drop o.length ++ N := by
    rw [h, List.drop_append_of_le_length]
    have := congrArg List.length hz
    rw [List.length_append] at this; omega
  rw [e]; exact okL_app k1 k2
theorem pre_start : o = o ++ o.drop o.length := by rw [List.drop_length, List.append_nil]
theorem pre_more (h : y = z ++ N) (hz : z = o ++ z.drop o.length) : y = o ++ y.drop o.length := by
  have e : y.drop o.length = z.drop o.length ++ N := by
    rw [h, List.drop_append_of_le_length]
    have := congrArg List.length hz
    rw [List.length_append] at this; omega
  rw [e, ← List.append_assoc, ← hz]; exact h
end
theorem txt_drop {X : List Row} (h : ∀ i, (X.getD i default).text.length ≤ 20000) (k : Nat) : ∀ i, ((X.drop k).getD i default).text.length ≤ 20000 := fun i => by
  have := h (k + i)
  rwa [List.getD_eq_getElem?_getD, ← List.getElem?_drop, ← List.getD_eq_getElem?_getD] at this
end R39
end Go.Proofs.YtbfiibgmgopnaaaDoor

namespace Go.Proofs.YtbfiibgmgopnaaaDoor
open Go.GV
set_option linter.unusedVariables false
set_option linter.unusedSimpArgs false
set_option maxHeartbeats 2000000 in
set_option maxRecDepth 20000 in
theorem read_in (r : Nat) (mB : Nat) (M : List (Bytes × Bytes)) (pr : Value) (o : List Statement) (oA : Option Addr) (oC : Nat) (oN : Nat) (rows : List Row) (rowsA : Option Addr) (rowsC : Nat) (cl : Bytes) (w : World) (rowsR : RO (Lown [Ent.blk r 77 [Value.map (some mB), pr, vL oA oN oC], Ent.mp vS mB (M.map kvS), Ent.row (.slice oA oN oC) 40 4 oN (o.flatMap Statement.enc)]) w rowsA (rows.flatMap Row.enc)) (hT : Tab (Lown [Ent.blk r 77 [Value.map (some mB), pr, vL oA oN oC], Ent.mp vS mB (M.map kvS), Ent.row (.slice oA oN oC) 40 4 oN (o.flatMap Statement.enc)]) w) (oQ : oN = o.length) (q0 : rows.length ≤ rowsC) (q1 : rows.length ≤ 100000) (q2 : ∀ i, (rows.getD i default).text.length ≤ 20000) (q3 : R39.ShortV M) (q4 : o.length ≤ 400) (hg : Give (Lown [Ent.blk r 77 [Value.map (some mB), pr, vL oA oN oC], Ent.mp vS mB (M.map kvS), Ent.row (.slice oA oN oC) 40 4 oN (o.flatMap Statement.enc)]) w [Ent.blk r 77 [Value.map (some mB), pr, vL oA oN oC], Ent.mp vS mB (M.map kvS), Ent.row (.slice oA oN oC) 40 4 oN (o.flatMap Statement.enc)]) : Calls Tryd.prog 39 #[pB r 0, vG [vL rowsA rows.length rowsC, vS cl, vB true]] w (GivesW (Lown [Ent.blk r 77 [Value.map (some mB), pr, vL oA oN oC], Ent.mp vS mB (M.map kvS), Ent.row (.slice oA oN oC) 40 4 oN (o.flatMap Statement.enc)]) w fun v L wx => ∃ fl : Int, ∃ fc : Int, ∃ y : List Statement, ∃ yA : Option Addr, ∃ yC : Nat, ∃ N : List Statement, v = vG [vI fl, vI fc] ∧ L = [Ent.blk r 77 [Value.map (some mB), pr, vL yA y.length yC], Ent.mp vS mB (M.map kvS), Ent.row (.slice yA y.length yC) 40 4 y.length (y.flatMap Statement.enc)] ∧ Kp (Lown L ++ List.range w.heap.size) wx (okL Statement.ok N) ∧ (y = o ++ N) ∧ (y.length ≤ 400) ∧ (∀ P, R39.RdJ (R39.readIn cl rows ⟨lookK M, P, o.map R39.pur⟩) fl fc ⟨lookK M, P, (o ++ N).map R39.pur⟩)) := by
 subst oQ
 refine calls_JW (Lown [Ent.blk r 77 [Value.map (some mB), pr, vL oA o.length oC], Ent.mp vS mB (M.map kvS), Ent.row (.slice oA o.length oC) 40 4 o.length (o.flatMap Statement.enc)]) 31 Tryd.func39 rfl Tryd.ntmps39 [(0, _), (1, _)] rfl rfl hg ?_
 refine q_ (g_ (o_ (bxG fun b1 => ?_)))
 refine o_ (al_ Ty.ze79 fun b2 => ?_)
 refine z_ (n_ (q_ (g_ ?_)))
 refine c1 (cl_ Ty.ca62) (fun w hS => f62_ok w) ?_
 rintro _ _ ⟨kb3, rfl, rfl⟩
 refine s_ av_ (z_ (n_ (q_ (k_ ?_))))
 refine J_loopB (X := (List Row) × (Option Addr) × Nat × (List Statement) × (Option Addr) × Nat) (fun (⟨X, XA, XC, z, zA, zC⟩ : (List Row) × (Option Addr) × Nat × (List Statement) × (Option Addr) × Nat) => (z = o ++ z.drop o.length) ∧ (∀ P, R39.readIn cl rows ⟨lookK M, P, o.map R39.pur⟩ = R39.readIn cl X ⟨lookK M, P, z.map R39.pur⟩) ∧ (z.length ≤ 400) ∧ (X.length ≤ rows.length) ∧ (X.length ≤ XC) ∧ (∀ i, (X.getD i default).text.length ≤ 20000)) (fun (⟨X, XA, XC, z, zA, zC⟩ : (List Row) × (Option Addr) × Nat × (List Statement) × (Option Addr) × Nat) wx => RO (Lown [Ent.mp vS kb3 [([115, 101, 116], Value.func (.func 86) #[] #[]), ([112, 114, 111, 99], Value.func (.func 87) #[] #[]), ([101, 110, 100], Value.func (.func 88) #[] #[]), ([99, 97, 108, 108], Value.func (.func 89) #[] #[]), ([106, 111, 98], Value.func (.func 90) #[] #[]), ([115, 116, 101, 112], Value.func (.func 90) #[] #[]), ([100, 100], Value.func (.func 90) #[] #[])], Ent.blk b2 79 [vI 0, vI 0], Ent.blk b1 82 [vL XA X.length XC, vS cl, vB true], Ent.blk r 77 [Value.map (some mB), pr, vL zA z.length zC], Ent.mp vS mB (M.map kvS), Ent.row (.slice zA z.length zC) 40 4 z.length (z.flatMap Statement.enc)]) wx XA (X.flatMap Row.enc) ∧ Kp (Lown [Ent.mp vS kb3 [([115, 101, 116], Value.func (.func 86) #[] #[]), ([112, 114, 111, 99], Value.func (.func 87) #[] #[]), ([101, 110, 100], Value.func (.func 88) #[] #[]), ([99, 97, 108, 108], Value.func (.func 89) #[] #[]), ([106, 111, 98], Value.func (.func 90) #[] #[]), ([115, 116, 101, 112], Value.func (.func 90) #[] #[]), ([100, 100], Value.func (.func 90) #[] #[])], Ent.blk b2 79 [vI 0, vI 0], Ent.blk b1 82 [vL XA X.length XC, vS cl, vB true], Ent.blk r 77 [Value.map (some mB), pr, vL zA z.length zC], Ent.mp vS mB (M.map kvS), Ent.row (.slice zA z.length zC) 40 4 z.length (z.flatMap Statement.enc)] ++ List.range w.heap.size) wx (okL Statement.ok (z.drop o.length))) (fun (⟨X, XA, XC, z, zA, zC⟩ : (List Row) × (Option Addr) × Nat × (List Statement) × (Option Addr) × Nat) => [(0, pB r 0), (3, pB b1 0), (4, pB b2 0), (5, Value.map (some kb3))]) (fun (⟨X, XA, XC, z, zA, zC⟩ : (List Row) × (Option Addr) × Nat × (List Statement) × (Option Addr) × Nat) => [Ent.mp vS kb3 [([115, 101, 116], Value.func (.func 86) #[] #[]), ([112, 114, 111, 99], Value.func (.func 87) #[] #[]), ([101, 110, 100], Value.func (.func 88) #[] #[]), ([99, 97, 108, 108], Value.func (.func 89) #[] #[]), ([106, 111, 98], Value.func (.func 90) #[] #[]), ([115, 116, 101, 112], Value.func (.func 90) #[] #[]), ([100, 100], Value.func (.func 90) #[] #[])], Ent.blk b2 79 [vI 0, vI 0], Ent.blk b1 82 [vL XA X.length XC, vS cl, vB true], Ent.blk r 77 [Value.map (some mB), pr, vL zA z.length zC], Ent.mp vS mB (M.map kvS), Ent.row (.slice zA z.length zC) 40 4 z.length (z.flatMap Statement.enc)]) (fun (⟨X, XA, XC, z, zA, zC⟩ : (List Row) × (Option Addr) × Nat × (List Statement) × (Option Addr) × Nat) => X.length) ((rows, rowsA, rowsC, o, oA, oC) : (List Row) × (Option Addr) × Nat × (List Statement) × (Option Addr) × Nat) ?_ ⟨rfl, rfl, rfl, rfl, trivial⟩ (fun _ h => h) (fun wx hw => ⟨(rowsR.again (hw)), R39.kept_start⟩) ?_
 ·try dsimp only
  refine ⟨?_, ?_, ?_, ?_, ?_, ?_⟩
  ·exact R39.pre_start
  ·exact fun _ => rfl
  ·first | rfl | omega | (simp_all; done) | (simp_all; omega)
  ·first | rfl | omega | (simp_all; done) | (simp_all; omega)
  ·first | rfl | omega | (simp_all; done) | (simp_all; omega)
  ·assumption
 rintro ⟨X, XA, XC, z, zA, zC⟩ wb1 hI1 hW1 hB1
 have rowsR := rowsR.again hB1
 have hT := hT.again hB1
 obtain ⟨XR, kz0⟩ := hW1
 have kz := kz0.fromF
 obtain ⟨i1_0, i1_1, i1_2, i1_3, i1_4, i1_5⟩ := hI1
 try dsimp only at i1_0
 try dsimp only at i1_1
 try dsimp only at i1_2
 try dsimp only at i1_3
 try dsimp only at i1_4
 try dsimp only at i1_5
 try dsimp only
 refine q_ (q_ (g_ (s_ (fA 0 Ty.fi82_0) (r_ (ld_ 2 Ty.sc68) (s_ (lnS Tryd.underlying68) (s_ (x_gtr_i rfl rfl) (z_ (n_ ?_))))))))
 refine ifd (fun h4w h4 => ?_) (fun h4w h4 => ?_)
 ·refine sk_ (n_ (k_ (q_ (g_ (s_ mv_ (s_ mv_ (r_ (ldN 2 [vL XA X.length XC, vS cl, vB true] Ty.ag82 Ty.sz82) ?_)))))))
  refine JO_callB (Lown [Ent.blk r 77 [Value.map (some mB), pr, vL zA z.length zC], Ent.mp vS mB (M.map kvS), Ent.mp vS kb3 [([115, 101, 116], Value.func (.func 86) #[] #[]), ([112, 114, 111, 99], Value.func (.func 87) #[] #[]), ([101, 110, 100], Value.func (.func 88) #[] #[]), ([99, 97, 108, 108], Value.func (.func 89) #[] #[]), ([106, 111, 98], Value.func (.func 90) #[] #[]), ([115, 116, 101, 112], Value.func (.func 90) #[] #[]), ([100, 100], Value.func (.func 90) #[] #[])], Ent.row (.slice zA z.length zC) 40 4 z.length (z.flatMap Statement.enc)]) [Ent.blk r 77 [Value.map (some mB), pr, vL zA z.length zC], Ent.mp vS mB (M.map kvS), Ent.mp vS kb3 [([115, 101, 116], Value.func (.func 86) #[] #[]), ([112, 114, 111, 99], Value.func (.func 87) #[] #[]), ([101, 110, 100], Value.func (.func 88) #[] #[]), ([99, 97, 108, 108], Value.func (.func 89) #[] #[]), ([106, 111, 98], Value.func (.func 90) #[] #[]), ([115, 116, 101, 112], Value.func (.func 90) #[] #[]), ([100, 100], Value.func (.func 90) #[] #[])], Ent.row (.slice zA z.length zC) 40 4 z.length (z.flatMap Statement.enc)] [Ent.blk b2 79 [vI 0, vI 0], Ent.blk b1 82 [vL XA X.length XC, vS cl, vB true]] rfl trivial (fun _ => x_call Ty.ca63 rfl) (fun _ h => ((((((h.front 2 _ rfl).front 2 _ rfl).front 5 _ rfl).front 3 _ rfl).front 5 _ rfl).front 5 _ rfl).keep [true, true, true, true, true, true] rfl) lown_mem (fun w hS => line_in r kb3 mB M pr z zA zC z.length X XA XC cl w (XR.on hS lown_mem) (hT.on hS lown_mem) hy_ hy_ hy_ hy_ hy_ hy_ hy_ (hS.give lown_in)) ?_
  rintro wc _ _ wbhB15 ⟨n5, fl6, fc7, y8, yA9, yC10, N11, rfl, rfl, kf16, hf12, hf13, hf14⟩ hc0 hB15
  have rowsR := rowsR.again hB15
  have XR := XR.again hB15
  have hT := hT.again hB15
  have kz0 := kz0.againF hB15
  have kz := kz.again hB15
  have kf160 := kf16.mono (lown_rangeAF (w00 := w) hc0 (hB1.back _ _ hc0).fr.size)
  have kf16 := kf16.mono (lown_rangeA hc0)
  refine s_ mv_ (s_ (ex_ 0) (s_ (ex_ 1) (o_ (al_ Ty.ze79 fun b17 => ?_))))
  refine s_ av_ (o_ (stG 0 Ty.sz79 ?_))
  refine z_ (n_ (q_ (q_ (g_ (s_ (fA 1 Ty.fi79_1) (r_ (ld_ 0 Ty.sc25) (s_ (x_neq_i rfl rfl) (z_ (n_ ?_)))))))))
  refine ifd (fun h18w h18 => ?_) (fun h18w h18 => ?_)
  ·refine q_ (g_ (r_ (ldN 0 [vI fl6, vI fc7] Ty.ag79 Ty.sz79) (o_ (stG 5 Ty.sz79 ?_))))
   refine z_ (xk_ [0, 3, 4, 5, 6] ?_)
   refine n_ (rt_ (nr_ (kq_ ?_)))
   refine JX_roundB_ret ?_
   refine kq_ (nr_ ?_)
   refine JX_retsD [_] _ Tryd.results39 (fun w h => ⟨⟨_, rfl, load_blkN 5 [vI fl6, vI fc7] h rfl Ty.ag79 Ty.sz79 rfl⟩, trivial⟩) rfl _ (fun _ h => h.keep [false, true, true, false, true, false, false] rfl) (fun _ _ h => (hB1.back _ _ (hB15.back _ _ h))) (fun wx hw => ⟨fl6, fc7, y8, yA9, yC10, (y8.drop o.length), ?_, ?_, (R39.kept_more hf12 i1_0 (kz0.againF (hw.keep [false, true, true, false, true, false, false] rfl)) (kf160.againF (hw.keep [false, true, true, false, true, false, false] rfl))), ?_, ?_, ?_⟩)
   ·rfl
   ·rfl
   ·first | exact i1_0 | exact R39.pre_more hf12 i1_0
   ·first | assumption | omega
   ·intro P
    first
     | (rw [← i1_0]; exact .inl ⟨R39.read_done (i1_1 P) (by omega), rfl, rfl⟩)
     | exact .inr ⟨R39.read_err (i1_1 P) (by omega) (R39.LnJ.erA hf14 (by assumption) P), by assumption⟩
  ·obtain ⟨k19, rfl, hkk⟩ := R39.LnJ.okA hf14 (by assumption)
   have hkx := R39.lineIn_rows (hkk [])
   rw [List.length_drop] at hkx
   refine sk_ (n_ (g_ (s_ (fA 0 Ty.fi82_0) (r_ (ld_ 6 Ty.sc68) (s_ mv_ (s_ (x_add_n (a := k19) (b := 1) rfl rfl (by omega)) (s_ (x_subrow (lo := k19 + 1) (hi := X.length) rfl Tryd.underlying68 Ty.sz73 (.inl rfl) (.inr ⟨rfl, rfl⟩) lt_ lt_) ?_)))))))
   have hro20 := RO.subF XR Row.enc_len XC (k19 + 1) (X.length - (k19 + 1)) lt_
   rw [show X.length - (k19 + 1) = (X.drop (k19 + 1)).length from List.length_drop.symm, List.take_length] at hro20
   refine JO_weaken (E' := [(0, pB r 0), (3, pB b1 0), (4, pB b2 0), (5, Value.map (some kb3)), (9, pB b1 0), (10, vL XA X.length XC), (11, vI ((X.length : Nat) : Int)), (12, vB (decide ((0 : Int) < ((X.length : Nat) : Int)))), (14, pB r 0), (15, Value.map (some kb3)), (16, vG [vL XA X.length XC, vS cl, vB true]), (17, Value.tuple #[vI ((k19 : Nat) : Int), vG [vI fl6, vI fc7]]), (13, Value.tuple #[vI ((k19 : Nat) : Int), vG [vI fl6, vI fc7]]), (18, vI ((k19 : Nat) : Int)), (19, vG [vI fl6, vI fc7]), (7, pB b17 0), (6, vI ((k19 : Nat) : Int)), (20, pB b17 1), (21, vI fc7), (22, vB (decide (fc7 ≠ 0))), (24, pB b1 0), (25, vL XA X.length XC), (26, vI ((k19 : Nat) : Int)), (27, vI ((k19 + 1 : Nat) : Int)), (28, vL (subA XA XC (k19 + 1) 2) ((X.drop (k19 + 1)).length) (XC - (k19 + 1)))]) (L' := [Ent.blk b17 79 [vI fl6, vI fc7], Ent.blk r 77 [Value.map (some mB), pr, vL yA9 y8.length yC10], Ent.mp vS mB (M.map kvS), Ent.mp vS kb3 [([115, 101, 116], Value.func (.func 86) #[] #[]), ([112, 114, 111, 99], Value.func (.func 87) #[] #[]), ([101, 110, 100], Value.func (.func 88) #[] #[]), ([99, 97, 108, 108], Value.func (.func 89) #[] #[]), ([106, 111, 98], Value.func (.func 90) #[] #[]), ([115, 116, 101, 112], Value.func (.func 90) #[] #[]), ([100, 100], Value.func (.func 90) #[] #[])], Ent.row (.slice yA9 y8.length yC10) 40 4 y8.length (y8.flatMap Statement.enc), Ent.blk b2 79 [vI 0, vI 0], Ent.blk b1 82 [vL XA X.length XC, vS cl, vB true]]) ⟨rfl, rfl, rfl, rfl, rfl, rfl, rfl, rfl, rfl, rfl, rfl, rfl, rfl, rfl, rfl, rfl, rfl, rfl, rfl, rfl, rfl, rfl, rfl, rfl, (congrArg (fun n : Nat => some (Value.slice (subA XA XC (k19 + 1) 2) n (XC - (k19 + 1)))) (by exact List.length_drop.symm)), trivial⟩ (fun _ h => h) ?_
   refine s_ (fA 0 Ty.fi82_0) (o_ (st1 6 Ty.sz68 ?_))
   refine z_ (kx_ ?_)
   refine JX_roundB (((X.drop (k19 + 1)), (subA XA XC (k19 + 1) 2), XC - (k19 + 1), y8, yA9, yC10) : (List Row) × (Option Addr) × Nat × (List Statement) × (Option Addr) × Nat) ?_ ?_ ⟨rfl, rfl, rfl, rfl, trivial⟩ (fun _ _ h => (hB1.back _ _ (hB15.back _ _ h))) (fun _ h => ((((((h.front 4 _ rfl).front 3 _ rfl).front 3 _ rfl).front 6 _ rfl).front 6 _ rfl).front 6 _ rfl).keep [true, true, true, true, true, true, false] rfl) (fun wx hw => ⟨(hro20.again (((((((hw.front 4 _ rfl).front 3 _ rfl).front 3 _ rfl).front 6 _ rfl).front 6 _ rfl).front 6 _ rfl).keep [true, true, true, true, true, true, false] rfl)), (R39.kept_more hf12 i1_0 (kz0.againF (((((((hw.front 4 _ rfl).front 3 _ rfl).front 3 _ rfl).front 6 _ rfl).front 6 _ rfl).front 6 _ rfl).keep [true, true, true, true, true, true, false] rfl)) (kf160.againF (((((((hw.front 4 _ rfl).front 3 _ rfl).front 3 _ rfl).front 6 _ rfl).front 6 _ rfl).front 6 _ rfl).keep [true, true, true, true, true, true, false] rfl)))⟩)
   ·try dsimp only
    refine ⟨?_, ?_, ?_, ?_, ?_, ?_⟩
    ·exact R39.pre_more hf12 i1_0
    ·intro P
     rw [hf12]
     exact R39.read_step (i1_1 P) (by omega) (hkk P)
    ·first | rfl | omega | (simp_all; done) | (simp_all; omega)
    ·rw [List.length_drop]; omega
    ·rw [List.length_drop]; omega
    ·exact R39.txt_drop i1_5 _
   ·try dsimp only
    rw [List.length_drop]; omega
 ·refine J_exit (ne_ (JX_roundB_exit (kh_ (n_ (q_ ?_)))))
  refine g_ (js_ (vG [vI 0, vI 0]) (x_build (by kernel_rfl)) (o_ (stG 1 Ty.sz79 ?_)))
  refine z_ (n_ (rt_ ?_))
  refine JX_retsD [_] _ Tryd.results39 (fun w h => ⟨⟨_, rfl, load_blkN 1 [vI 0, vI 0] h rfl Ty.ag79 Ty.sz79 rfl⟩, trivial⟩) rfl _ (fun _ h => h.keep [false, false, false, true, true, true] rfl) (fun _ _ h => (hB1.back _ _ h)) (fun wx hw => ⟨0, 0, z, zA, zC, (z.drop o.length), ?_, ?_, (kz0.againF (hw.keep [false, false, false, true, true, true] rfl)), ?_, ?_, ?_⟩)
  ·rfl
  ·rfl
  ·first | exact i1_0 | exact R39.pre_more no_such_condition i1_0
  ·first | assumption | omega
  ·intro P
   first
    | (rw [← i1_0]; exact .inl ⟨R39.read_done (i1_1 P) (by omega), rfl, rfl⟩)
    | exact .inr ⟨R39.read_err (i1_1 P) (by omega) (R39.LnJ.erA no_such_condition (by assumption) P), by assumption⟩
end Go.Proofs.YtbfiibgmgopnaaaDoor
