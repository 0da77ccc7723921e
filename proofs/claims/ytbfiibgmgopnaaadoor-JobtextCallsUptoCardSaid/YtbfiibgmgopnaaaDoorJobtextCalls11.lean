/- C39e, Pl39l in one text. -/
import Derived.Test.YtbfiibgmgopnaaaDoorJobtextCalls10
import Derived.Test.YtbfiibgmgopnaaaDoorJobtextCalls5
set_option linter.unusedVariables false
set_option linter.unusedSimpArgs false
namespace Go.Proofs.YtbfiibgmgopnaaaDoor
open Go.GV
set_option linter.unusedVariables false
set_option linter.unusedSimpArgs false
set_option maxRecDepth 20000 in
theorem vals_ok (ws : List Bytes) (wsA : Option Addr) (wsC : Nat) (w : World) (wsR : RO [] w wsA (ws.map vS)) (hT : Tab [] w) (q0 : ws.length ≤ 1000000) (q1 : ∀ i, (ws.getD i []).length ≤ 20000) (q2 : (R39.valsV ws).isSome = true) : Calls Tryd.prog 98 #[vL wsA ws.length wsC] w (GivesW [] w fun v L wx => ∃ V : List (Bytes × Bytes), ∃ VB : Nat, v = Value.tuple #[Value.map (some VB), vB true] ∧ L = [] ∧ Kp (Lown L ++ List.range w.heap.size) wx (Ent.at (Ent.mp vS VB (V.map kvS))) ∧ (R39.valsV ws = some V)) := by
 refine calls_JW [] 46 Tryd.func98 rfl Tryd.ntmps98 [(0, _)] rfl rfl (Give.nil w) ?_
 refine q_ (g_ (s_ av_ (s_ av_ (z_ (n_ (q_ (g_ (o_ (O_makeMap vS fun b1 => ?_)))))))))
 refine s_ av_ (z_ (n_ (q_ (q_ (g_ (s_ mv_ (s_ (lnS Tryd.underlying24) (s_ mv_ (z_ (n_ (k_ ?_)))))))))))
 refine J_loop (X := Nat × (List (Bytes × Bytes))) (fun (⟨k, M⟩ : Nat × (List (Bytes × Bytes))) => (k ≤ ws.length) ∧ (R39.valsG M (ws.drop k) = R39.valsV ws)) (fun (⟨k, M⟩ : Nat × (List (Bytes × Bytes))) => [(4, Value.map (some b1)), (13, vL wsA ws.length wsC), (14, vI ((ws.length : Nat) : Int)), (15, vI ((k : Nat) : Int))]) (fun (⟨k, M⟩ : Nat × (List (Bytes × Bytes))) => [Ent.mp vS b1 (M.map kvS)]) (fun (⟨k, M⟩ : Nat × (List (Bytes × Bytes))) => ws.length - k) ((0, ([] : List (Bytes × Bytes))) : Nat × (List (Bytes × Bytes))) ?_ ⟨rfl, rfl, rfl, rfl, trivial⟩ (fun _ h => h) ?_
 ·try dsimp only
  refine ⟨?_, ?_⟩
  ·first | rfl | omega | (simp_all; done) | (simp_all; omega)
  ·rfl
 rintro ⟨k, M⟩ hI1
 obtain ⟨i1_0, i1_1⟩ := hI1
 try dsimp only at i1_0
 try dsimp only at i1_1
 have hwk := q1 k
 try dsimp only
 refine q_ (g_ (s_ (x_lss_i rfl rfl) (z_ (n_ (q_ ?_)))))
 refine ifd (fun h2w h2 => ?_) (fun h2w h2 => ?_)
 ·refine sk_ (n_ (q_ (k_ (q_ (g_ (r_ (ixM (cells_ro wsR) Tryd.underlying24 Ty.sz9) (r_ (ldM vS [] (cells_ro wsR) Ty.sc9) (s_ av_ (z_ (n_ (q_ (g_ (s_ mv_ ?_)))))))))))))
  refine c1 (cl_ Ty.ca29) (fun w hS => cut_ok 61 _ w (hT.on hS (fun _ h => by cases h)) hy_) ?_
  rintro _ _ ⟨a3, r4, o5, rfl, rfl, hf6, hf7, hf8⟩
  try simp only [List.length_cons, List.length_nil, Nat.zero_add, Nat.reduceAdd] at hf8
  refine s_ mv_ (s_ (ex_ 0) (s_ (ex_ 1) (s_ (ex_ 2) (s_ av_ (s_ av_ (s_ av_ (z_ (n_ (q_ (q_ (g_ (s_ mv_ (s_ mv_ ?_)))))))))))))
  refine JO_read (Value.tuple #[vS ((lookK M a3).getD []), vB ((lookK M a3).isSome)]) rfl trivial (x_lookup_okv 0 (f := vS) (k := a3) rfl rfl rfl Tryd.underlying22 (mapK_s Tryd.underlying9) Ty.ze9 (lk_kv M a3) (getD_kv _) (isSome_mp _ _)) ?_
  refine s_ mv_ (s_ (ex_ 0) (s_ (ex_ 1) (s_ av_ (s_ av_ (z_ (xk_ [4, 13, 14, 15, 7, 8, 9, 11] ?_))))))
  refine n_ (q_ (g_ (s_ mv_ (s_ (x_not rfl) (s_ mv_ ?_)))))
  refine or_ 1 ((lookK M a3).isSome) (fun g9 => ?_) ?_
  ·have g9r := g9
   have g9r : (o5) = true := bnot_false g9r
   refine sg_ g9 mv_ ?_
   exact cr_
  refine s_ mv_ ?_
  refine or_ 3 (!(R39.symV a3)) (fun g10 => ?_) ?_
  ·have g10r := g10
   have ⟨g10r, h11⟩ := bor_false g10r
   have g10r : (o5) = true := bnot_false g10r
   refine sg_ g10 mv_ (c0g g10 (cl_ Ty.ca30) (fun w hS => f30_ok a3 w (hT.on hS (fun _ h => by cases h)) hy_) (sg_ g10 (x_not rfl) ?_))
   exact cr_
  refine z_ (n_ ?_)
  refine if_ (fun h12 => ?_) (fun h12 => ?_)
  ·have h12w := h12
   simp only [Bool.and_eq_true, Bool.or_eq_true, Bool.and_eq_false_iff, Bool.or_eq_false_iff, Bool.not_eq_true', Bool.not_eq_false', decide_eq_true_eq, decide_eq_false_iff_not] at h12
   exact (R39.vals_yes (R39.vals_bad i1_1 (by omega) hf6 hf7 (by assumption)) q2).elim
  ·have h12w := h12
   have ⟨h12, h13⟩ := bor_false h12
   have ⟨h12, h14⟩ := bor_false h12
   have h12 : (o5) = true := bnot_false h12
   have h13 : (R39.symV a3) = true := bnot_false h13
   refine sk_ (n_ (g_ (s_ mv_ (s_ mv_ (s_ mv_ (o_ (O_mapUpdate 0 (f := vS) (k := a3) ((putK M a3 r4).map kvS) [Ent.mp vS b1 ((putK M a3 r4).map kvS)] rfl rfl rfl rfl Tryd.underlying22 (mapK_s Tryd.underlying9) (upd_kv M a3 r4) rfl ?_)))))))
   refine z_ (kx_ (n_ (g_ (s_ (x_add_n (a := k) (b := 1) rfl rfl (by omega)) (s_ mv_ (z_ ?_))))))
   refine JX_round ((k + 1, (putK M a3 r4)) : Nat × (List (Bytes × Bytes))) ?_ ?_ ⟨rfl, rfl, rfl, rfl, trivial⟩ (fun _ h => h)
   ·try dsimp only
    refine ⟨?_, ?_⟩
    ·first | rfl | omega | (simp_all; done) | (simp_all; omega)
    ·exact R39.vals_step i1_1 (by omega) hf6 (by assumption)
   ·try dsimp only
    first | omega | (simp; omega) | (simp_all; omega)
 ·refine J_exit (ne_ (re_ (kh_ (n_ (q_ ?_)))))
  refine g_ (s_ mv_ (s_ av_ (s_ av_ (z_ (n_ (rt_ ?_))))))
  refine JX_retsD [_, _] (Value.tuple #[_, _]) Tryd.results98 (fun w h => ⟨rfl, rfl, trivial⟩) rfl _ (fun _ h => h.keep [false] rfl) (fun _ _ h => h) (fun wx hw => ⟨M, b1, ?_, ?_, (Kp.of_entsF (Lc := []) (Lr := [Ent.mp vS b1 (M.map kvS)]) hw hw (fun _ h => h _ List.mem_cons_self)), ?_⟩)
  ·rfl
  ·rfl
  ·exact (R39.vals_done i1_1 (by omega))
set_option maxRecDepth 20000 in
theorem vals_no (ws : List Bytes) (wsA : Option Addr) (wsC : Nat) (w : World) (wsR : RO [] w wsA (ws.map vS)) (hT : Tab [] w) (q0 : ws.length ≤ 1000000) (q1 : ∀ i, (ws.getD i []).length ≤ 20000) (q2 : (R39.valsV ws).isSome = false) : Calls Tryd.prog 98 #[vL wsA ws.length wsC] w (Gives [] w fun v L => v = Value.tuple #[Value.map none, vB false] ∧ L = []) := by
 refine calls_J [] 46 Tryd.func98 rfl Tryd.ntmps98 [(0, _)] rfl rfl (Give.nil w) ?_
 refine q_ (g_ (s_ av_ (s_ av_ (z_ (n_ (q_ (g_ (o_ (O_makeMap vS fun b1 => ?_)))))))))
 refine s_ av_ (z_ (n_ (q_ (q_ (g_ (s_ mv_ (s_ (lnS Tryd.underlying24) (s_ mv_ (z_ (n_ (k_ ?_)))))))))))
 refine J_loop (X := Nat × (List (Bytes × Bytes))) (fun (⟨k, M⟩ : Nat × (List (Bytes × Bytes))) => (k ≤ ws.length) ∧ (R39.valsG M (ws.drop k) = R39.valsV ws)) (fun (⟨k, M⟩ : Nat × (List (Bytes × Bytes))) => [(4, Value.map (some b1)), (13, vL wsA ws.length wsC), (14, vI ((ws.length : Nat) : Int)), (15, vI ((k : Nat) : Int))]) (fun (⟨k, M⟩ : Nat × (List (Bytes × Bytes))) => [Ent.mp vS b1 (M.map kvS)]) (fun (⟨k, M⟩ : Nat × (List (Bytes × Bytes))) => ws.length - k) ((0, ([] : List (Bytes × Bytes))) : Nat × (List (Bytes × Bytes))) ?_ ⟨rfl, rfl, rfl, rfl, trivial⟩ (fun _ h => h) ?_
 ·try dsimp only
  refine ⟨?_, ?_⟩
  ·first | rfl | omega | (simp_all; done) | (simp_all; omega)
  ·rfl
 rintro ⟨k, M⟩ hI1
 obtain ⟨i1_0, i1_1⟩ := hI1
 try dsimp only at i1_0
 try dsimp only at i1_1
 have hwk := q1 k
 try dsimp only
 refine q_ (g_ (s_ (x_lss_i rfl rfl) (z_ (n_ (q_ ?_)))))
 refine ifd (fun h2w h2 => ?_) (fun h2w h2 => ?_)
 ·refine sk_ (n_ (q_ (k_ (q_ (g_ (r_ (ixM (cells_ro wsR) Tryd.underlying24 Ty.sz9) (r_ (ldM vS [] (cells_ro wsR) Ty.sc9) (s_ av_ (z_ (n_ (q_ (g_ (s_ mv_ ?_)))))))))))))
  refine c1 (cl_ Ty.ca29) (fun w hS => cut_ok 61 _ w (hT.on hS (fun _ h => by cases h)) hy_) ?_
  rintro _ _ ⟨a3, r4, o5, rfl, rfl, hf6, hf7, hf8⟩
  try simp only [List.length_cons, List.length_nil, Nat.zero_add, Nat.reduceAdd] at hf8
  refine s_ mv_ (s_ (ex_ 0) (s_ (ex_ 1) (s_ (ex_ 2) (s_ av_ (s_ av_ (s_ av_ (z_ (n_ (q_ (q_ (g_ (s_ mv_ (s_ mv_ ?_)))))))))))))
  refine JO_read (Value.tuple #[vS ((lookK M a3).getD []), vB ((lookK M a3).isSome)]) rfl trivial (x_lookup_okv 0 (f := vS) (k := a3) rfl rfl rfl Tryd.underlying22 (mapK_s Tryd.underlying9) Ty.ze9 (lk_kv M a3) (getD_kv _) (isSome_mp _ _)) ?_
  refine s_ mv_ (s_ (ex_ 0) (s_ (ex_ 1) (s_ av_ (s_ av_ (z_ (xk_ [4, 13, 14, 15, 7, 8, 9, 11] ?_))))))
  refine n_ (q_ (g_ (s_ mv_ (s_ (x_not rfl) (s_ mv_ ?_)))))
  refine or_ 1 ((lookK M a3).isSome) (fun g9 => ?_) ?_
  ·have g9r := g9
   have g9r : (o5) = true := bnot_false g9r
   refine sg_ g9 mv_ ?_
   exact cr_
  refine s_ mv_ ?_
  refine or_ 3 (!(R39.symV a3)) (fun g10 => ?_) ?_
  ·have g10r := g10
   have ⟨g10r, h11⟩ := bor_false g10r
   have g10r : (o5) = true := bnot_false g10r
   refine sg_ g10 mv_ (c0g g10 (cl_ Ty.ca30) (fun w hS => f30_ok a3 w (hT.on hS (fun _ h => by cases h)) hy_) (sg_ g10 (x_not rfl) ?_))
   exact cr_
  refine z_ (n_ ?_)
  refine if_ (fun h12 => ?_) (fun h12 => ?_)
  ·have h12w := h12
   simp only [Bool.and_eq_true, Bool.or_eq_true, Bool.and_eq_false_iff, Bool.or_eq_false_iff, Bool.not_eq_true', Bool.not_eq_false', decide_eq_true_eq, decide_eq_false_iff_not] at h12
   refine q_ (g_ (s_ av_ (s_ av_ (z_ (n_ (rt_ (nr_ (kq_ (nr_ (rr_ (kq_ (nr_ ?_))))))))))))
   exact p2 Tryd.results98 rfl rfl ⟨rfl, rfl⟩
  ·have h12w := h12
   have ⟨h12, h13⟩ := bor_false h12
   have ⟨h12, h14⟩ := bor_false h12
   have h12 : (o5) = true := bnot_false h12
   have h13 : (R39.symV a3) = true := bnot_false h13
   refine sk_ (n_ (g_ (s_ mv_ (s_ mv_ (s_ mv_ (o_ (O_mapUpdate 0 (f := vS) (k := a3) ((putK M a3 r4).map kvS) [Ent.mp vS b1 ((putK M a3 r4).map kvS)] rfl rfl rfl rfl Tryd.underlying22 (mapK_s Tryd.underlying9) (upd_kv M a3 r4) rfl ?_)))))))
   refine z_ (kx_ (n_ (g_ (s_ (x_add_n (a := k) (b := 1) rfl rfl (by omega)) (s_ mv_ (z_ ?_))))))
   refine JX_round ((k + 1, (putK M a3 r4)) : Nat × (List (Bytes × Bytes))) ?_ ?_ ⟨rfl, rfl, rfl, rfl, trivial⟩ (fun _ h => h)
   ·try dsimp only
    refine ⟨?_, ?_⟩
    ·first | rfl | omega | (simp_all; done) | (simp_all; omega)
    ·exact R39.vals_step i1_1 (by omega) hf6 (by assumption)
   ·try dsimp only
    first | omega | (simp; omega) | (simp_all; omega)
 ·exact (R39.vals_no (R39.vals_done i1_1 (by omega)) q2).elim
set_option maxRecDepth 20000 in
theorem set_in (rv : Value) (rows : List Row) (rowsA : Option Addr) (rowsC : Nat) (cl : Bytes) (ws : List Bytes) (wsA : Option Addr) (wsC : Nat) (w : World) (rowsR : RO [] w rowsA (rows.flatMap Row.enc)) (wsR : RO [] w wsA (ws.map vS)) (q0 : 0 < rows.length) : Calls Tryd.prog 86 #[rv, vG [vL rowsA rows.length rowsC, vS cl, vB true], vL wsA ws.length wsC] w (Gives [] w fun v L => v = Value.tuple #[vI 0, vG [vI ((rows.getD 0 default).number), vI 9]] ∧ L = []) := by
 refine calls_J [] 37 Tryd.func86 rfl Tryd.ntmps86 [(0, _), (1, _), (2, _)] rfl rfl (Give.nil w) ?_
 refine q_ (g_ (o_ (bxG fun b1 => ?_)))
 refine s_ av_ (o_ (al_ Ty.ze79 fun b2 => ?_))
 refine z_ (n_ (q_ (k_ (q_ (g_ (s_ (fA 2 Ty.fi82_2) (r_ (ld_ 1 Ty.sc4) (s_ av_ (z_ (n_ (ift (q_ (g_ (r_ (ldN 1 [vL rowsA rows.length rowsC, vS cl, vB true] Ty.ag82 Ty.sz82) (c0 (cl_ Ty.ca91) (fun w hS => f91_ok rows _ _ cl true 9 w (rno rowsR hS) hy_) (s_ av_ (o_ (stG 0 Ty.sz79 ?_))))))))))))))))))
 refine z_ (n_ (rt_ (kq_ (nr_ ?_))))
 refine JX_rets [_, _] (Value.tuple #[_, _]) Tryd.results86 (fun w h => ⟨rfl, ⟨_, rfl, load_blkN 0 [vI ((rows.getD 0 default).number), vI 9] h rfl Ty.ag79 Ty.sz79 rfl⟩, trivial⟩) rfl _ (fun _ h => h.keep [false, false] rfl) ⟨?_, ?_⟩
 ·rfl
 ·rfl
set_option maxRecDepth 20000 in
theorem proc_in (rv : Value) (rows : List Row) (rowsA : Option Addr) (rowsC : Nat) (cl : Bytes) (ws : List Bytes) (wsA : Option Addr) (wsC : Nat) (w : World) (rowsR : RO [] w rowsA (rows.flatMap Row.enc)) (wsR : RO [] w wsA (ws.map vS)) (q0 : 0 < rows.length) : Calls Tryd.prog 87 #[rv, vG [vL rowsA rows.length rowsC, vS cl, vB true], vL wsA ws.length wsC] w (Gives [] w fun v L => v = Value.tuple #[vI 0, vG [vI ((rows.getD 0 default).number), vI 9]] ∧ L = []) := by
 refine calls_J [] 104 Tryd.func87 rfl Tryd.ntmps87 [(0, _), (1, _), (2, _)] rfl rfl (Give.nil w) ?_
 refine q_ (g_ (o_ (bxG fun b1 => ?_)))
 refine s_ av_ (o_ (al_ Ty.ze79 fun b2 => ?_))
 refine z_ (n_ (q_ (q_ (g_ (s_ (fA 2 Ty.fi82_2) (r_ (ld_ 1 Ty.sc4) (z_ (n_ (ift (q_ (g_ (r_ (ldN 1 [vL rowsA rows.length rowsC, vS cl, vB true] Ty.ag82 Ty.sz82) (c0 (cl_ Ty.ca91) (fun w hS => f91_ok rows _ _ cl true 9 w (rno rowsR hS) hy_) (s_ av_ (o_ (stG 0 Ty.sz79 ?_))))))))))))))))
 refine z_ (n_ (rt_ (nr_ ?_)))
 refine JX_rets [_, _] (Value.tuple #[_, _]) Tryd.results87 (fun w h => ⟨rfl, ⟨_, rfl, load_blkN 0 [vI ((rows.getD 0 default).number), vI 9] h rfl Ty.ag79 Ty.sz79 rfl⟩, trivial⟩) rfl _ (fun _ h => h.keep [false, false] rfl) ⟨?_, ?_⟩
 ·rfl
 ·rfl
set_option maxRecDepth 20000 in
theorem call_in (rv : Value) (rows : List Row) (rowsA : Option Addr) (rowsC : Nat) (cl : Bytes) (ws : List Bytes) (wsA : Option Addr) (wsC : Nat) (w : World) (rowsR : RO [] w rowsA (rows.flatMap Row.enc)) (wsR : RO [] w wsA (ws.map vS)) (q0 : 0 < rows.length) : Calls Tryd.prog 89 #[rv, vG [vL rowsA rows.length rowsC, vS cl, vB true], vL wsA ws.length wsC] w (Gives [] w fun v L => v = Value.tuple #[vI 0, vG [vI ((rows.getD 0 default).number), vI 9]] ∧ L = []) := by
 refine calls_J [] 114 Tryd.func89 rfl Tryd.ntmps89 [(0, _), (1, _), (2, _)] rfl rfl (Give.nil w) ?_
 refine q_ (g_ (o_ (bxG fun b1 => ?_)))
 refine s_ av_ (o_ (al_ Ty.ze79 fun b2 => ?_))
 refine z_ (n_ (q_ (q_ (g_ (s_ (fA 2 Ty.fi82_2) (r_ (ld_ 1 Ty.sc4) (z_ (n_ (ift (q_ (g_ (r_ (ldN 1 [vL rowsA rows.length rowsC, vS cl, vB true] Ty.ag82 Ty.sz82) (c0 (cl_ Ty.ca91) (fun w hS => f91_ok rows _ _ cl true 9 w (rno rowsR hS) hy_) (s_ av_ (o_ (stG 0 Ty.sz79 ?_))))))))))))))))
 refine z_ (n_ (rt_ (nr_ ?_)))
 refine JX_rets [_, _] (Value.tuple #[_, _]) Tryd.results89 (fun w h => ⟨rfl, ⟨_, rfl, load_blkN 0 [vI ((rows.getD 0 default).number), vI 9] h rfl Ty.ag79 Ty.sz79 rfl⟩, trivial⟩) rfl _ (fun _ h => h.keep [false, false] rfl) ⟨?_, ?_⟩
 ·rfl
 ·rfl
set_option maxRecDepth 20000 in
theorem f88_ok (rv : Value) (rows : List Row) (rowsA : Option Addr) (rowsC : Nat) (cl : Bytes) (inn : Bool) (ws : List Bytes) (wsA : Option Addr) (wsC : Nat) (w : World) (rowsR : RO [] w rowsA (rows.flatMap Row.enc)) (wsR : RO [] w wsA (ws.map vS)) (q0 : 0 < rows.length) : Calls Tryd.prog 88 #[rv, vG [vL rowsA rows.length rowsC, vS cl, vB inn], vL wsA ws.length wsC] w (Gives [] w fun v L => v = Value.tuple #[vI 0, vG [vI ((rows.getD 0 default).number), vI 9]] ∧ L = []) := by
 refine calls_J [] 10 Tryd.func88 rfl Tryd.ntmps88 [(0, _), (1, _), (2, _)] rfl rfl (Give.nil w) ?_
 refine q_ (g_ (o_ (bxG fun b1 => ?_)))
 refine s_ av_ (o_ (al_ Ty.ze79 fun b2 => ?_))
 refine z_ (n_ (q_ (g_ (r_ (ldN 1 [vL rowsA rows.length rowsC, vS cl, vB inn] Ty.ag82 Ty.sz82) (c0 (cl_ Ty.ca91) (fun w hS => f91_ok rows _ _ cl inn 9 w (rno rowsR hS) hy_) (s_ av_ (o_ (stG 0 Ty.sz79 ?_))))))))
 refine z_ (n_ (rt_ ?_))
 refine JX_rets [_, _] (Value.tuple #[_, _]) Tryd.results88 (fun w h => ⟨rfl, ⟨_, rfl, load_blkN 0 [vI ((rows.getD 0 default).number), vI 9] h rfl Ty.ag79 Ty.sz79 rfl⟩, trivial⟩) rfl _ (fun _ h => h.keep [false, false] rfl) ⟨?_, ?_⟩
 ·rfl
 ·rfl
set_option maxRecDepth 20000 in
theorem f62_ok (w : World) : Calls Tryd.prog 62 #[] w (Gives [] w fun v L => ∃ kb : Nat, v = Value.map (some kb) ∧ L = [Ent.mp vS kb [([115, 101, 116], Value.func (.func 86) #[] #[]), ([112, 114, 111, 99], Value.func (.func 87) #[] #[]), ([101, 110, 100], Value.func (.func 88) #[] #[]), ([99, 97, 108, 108], Value.func (.func 89) #[] #[]), ([106, 111, 98], Value.func (.func 90) #[] #[]), ([115, 116, 101, 112], Value.func (.func 90) #[] #[]), ([100, 100], Value.func (.func 90) #[] #[])]]) := by
 refine calls_J [] 3 Tryd.func62 rfl Tryd.ntmps62 [] rfl rfl (Give.nil w) ?_
 refine q_ (g_ (s_ av_ (z_ (n_ (q_ (g_ (o_ (O_makeMap vS fun b1 => ?_))))))))
 refine o_ (O_insert 0 (f := vS) (k := [115, 101, 116]) [([115, 101, 116], Value.func (.func 86) #[] #[])] [Ent.mp vS b1 [([115, 101, 116], Value.func (.func 86) #[] #[])]] rfl rfl rfl rfl Tryd.underlying100 (mapK_s Tryd.underlying9) rfl rfl ?_)
 refine o_ (O_insert 0 (f := vS) (k := [112, 114, 111, 99]) [([115, 101, 116], Value.func (.func 86) #[] #[]), ([112, 114, 111, 99], Value.func (.func 87) #[] #[])] [Ent.mp vS b1 [([115, 101, 116], Value.func (.func 86) #[] #[]), ([112, 114, 111, 99], Value.func (.func 87) #[] #[])]] rfl rfl rfl rfl Tryd.underlying100 (mapK_s Tryd.underlying9) rfl rfl ?_)
 refine o_ (O_insert 0 (f := vS) (k := [101, 110, 100]) [([115, 101, 116], Value.func (.func 86) #[] #[]), ([112, 114, 111, 99], Value.func (.func 87) #[] #[]), ([101, 110, 100], Value.func (.func 88) #[] #[])] [Ent.mp vS b1 [([115, 101, 116], Value.func (.func 86) #[] #[]), ([112, 114, 111, 99], Value.func (.func 87) #[] #[]), ([101, 110, 100], Value.func (.func 88) #[] #[])]] rfl rfl rfl rfl Tryd.underlying100 (mapK_s Tryd.underlying9) rfl rfl ?_)
 refine o_ (O_insert 0 (f := vS) (k := [99, 97, 108, 108]) [([115, 101, 116], Value.func (.func 86) #[] #[]), ([112, 114, 111, 99], Value.func (.func 87) #[] #[]), ([101, 110, 100], Value.func (.func 88) #[] #[]), ([99, 97, 108, 108], Value.func (.func 89) #[] #[])] [Ent.mp vS b1 [([115, 101, 116], Value.func (.func 86) #[] #[]), ([112, 114, 111, 99], Value.func (.func 87) #[] #[]), ([101, 110, 100], Value.func (.func 88) #[] #[]), ([99, 97, 108, 108], Value.func (.func 89) #[] #[])]] rfl rfl rfl rfl Tryd.underlying100 (mapK_s Tryd.underlying9) rfl rfl ?_)
 refine o_ (O_insert 0 (f := vS) (k := [106, 111, 98]) [([115, 101, 116], Value.func (.func 86) #[] #[]), ([112, 114, 111, 99], Value.func (.func 87) #[] #[]), ([101, 110, 100], Value.func (.func 88) #[] #[]), ([99, 97, 108, 108], Value.func (.func 89) #[] #[]), ([106, 111, 98], Value.func (.func 90) #[] #[])] [Ent.mp vS b1 [([115, 101, 116], Value.func (.func 86) #[] #[]), ([112, 114, 111, 99], Value.func (.func 87) #[] #[]), ([101, 110, 100], Value.func (.func 88) #[] #[]), ([99, 97, 108, 108], Value.func (.func 89) #[] #[]), ([106, 111, 98], Value.func (.func 90) #[] #[])]] rfl rfl rfl rfl Tryd.underlying100 (mapK_s Tryd.underlying9) rfl rfl ?_)
 refine o_ (O_insert 0 (f := vS) (k := [115, 116, 101, 112]) [([115, 101, 116], Value.func (.func 86) #[] #[]), ([112, 114, 111, 99], Value.func (.func 87) #[] #[]), ([101, 110, 100], Value.func (.func 88) #[] #[]), ([99, 97, 108, 108], Value.func (.func 89) #[] #[]), ([106, 111, 98], Value.func (.func 90) #[] #[]), ([115, 116, 101, 112], Value.func (.func 90) #[] #[])] [Ent.mp vS b1 [([115, 101, 116], Value.func (.func 86) #[] #[]), ([112, 114, 111, 99], Value.func (.func 87) #[] #[]), ([101, 110, 100], Value.func (.func 88) #[] #[]), ([99, 97, 108, 108], Value.func (.func 89) #[] #[]), ([106, 111, 98], Value.func (.func 90) #[] #[]), ([115, 116, 101, 112], Value.func (.func 90) #[] #[])]] rfl rfl rfl rfl Tryd.underlying100 (mapK_s Tryd.underlying9) rfl rfl ?_)
 refine o_ (O_insert 0 (f := vS) (k := [100, 100]) [([115, 101, 116], Value.func (.func 86) #[] #[]), ([112, 114, 111, 99], Value.func (.func 87) #[] #[]), ([101, 110, 100], Value.func (.func 88) #[] #[]), ([99, 97, 108, 108], Value.func (.func 89) #[] #[]), ([106, 111, 98], Value.func (.func 90) #[] #[]), ([115, 116, 101, 112], Value.func (.func 90) #[] #[]), ([100, 100], Value.func (.func 90) #[] #[])] [Ent.mp vS b1 [([115, 101, 116], Value.func (.func 86) #[] #[]), ([112, 114, 111, 99], Value.func (.func 87) #[] #[]), ([101, 110, 100], Value.func (.func 88) #[] #[]), ([99, 97, 108, 108], Value.func (.func 89) #[] #[]), ([106, 111, 98], Value.func (.func 90) #[] #[]), ([115, 116, 101, 112], Value.func (.func 90) #[] #[]), ([100, 100], Value.func (.func 90) #[] #[])]] rfl rfl rfl rfl Tryd.underlying100 (mapK_s Tryd.underlying9) rfl rfl ?_)
 refine s_ mv_ (s_ av_ (z_ (n_ (rt_ ?_))))
 refine JX_rets [_] _ Tryd.results62 (fun w h => ⟨rfl, trivial⟩) rfl _ (fun _ h => h) ⟨b1, ?_, ?_⟩
 ·rfl
 ·rfl
set_option maxRecDepth 20000 in
theorem f99_ok (m : List (Bytes × Bytes)) (mB : Nat) (w : World) (mR : Kp [] w (Ent.at (Ent.mp vS mB (m.map kvS)))) : Calls Tryd.prog 99 #[Value.map (some mB)] w (Gives [] w fun v L => ∃ b2 : Nat, v = Value.map (some b2) ∧ L = [Ent.mp vS b2 (m.map kvS)]) := by
 refine calls_J [] 9 Tryd.func99 rfl Tryd.ntmps99 [(0, _)] rfl rfl (Give.nil w) ?_
 refine q_ (g_ (s_ av_ (z_ (n_ (q_ (q_ (g_ (s_ mv_ (s_ (x_eql_map rfl rfl Tryd.underlying22) (z_ (n_ (iff_ (sk_ (n_ (q_ (g_ (s_ mv_ (js_ (Value.iface 22 (Value.map (some mB))) (x_iface rfl (by kernel_rfl)) (o_ (O_clone clones mR rfl fun b1 => ?_))))))))))))))))))))
 refine s_ (x_assert_map rfl Tryd.underlying22) (s_ av_ (z_ (n_ (rt_ ?_))))
 refine JX_rets [_] _ Tryd.results99 (fun w h => ⟨rfl, trivial⟩) rfl _ (fun _ h => h) ⟨b1, ?_, ?_⟩
 ·rfl
 ·rfl
set_option maxRecDepth 20000 in
theorem f100_ok (D : List (Bytes × Bytes)) (dB : Nat) (m : List (Bytes × Bytes)) (mB : Nat) (w : World) (mR : Kp [dB] w (Ent.at (Ent.mp vS mB (m.map kvS)))) (q0 : R39.KeysNd m) (hg : Give [dB] w [Ent.mp vS dB (D.map kvS)]) : Calls Tryd.prog 100 #[Value.map (some dB), Value.map (some mB)] w (Gives [dB] w fun v L => ∃ D2 : List (Bytes × Bytes), v = Value.tuple #[] ∧ L = [Ent.mp vS dB (D2.map kvS)] ∧ (lookK D2 = R39.over (lookK D) m)) := by
 refine calls_J [dB] 16 Tryd.func100 rfl Tryd.ntmps100 [(0, _), (1, _)] rfl rfl hg ?_
 refine q_ (g_ (s_ mv_ (o_ (O_rangeR mR rfl Tryd.underlying22 fun es1 ck2 it3 hborn4 hmx5 => ?_))))
 refine z_ (n_ (k_ ?_))
 refine J_loop (X := (List (Bytes × Bytes)) × (Option (Bytes × Value)) × (List (Bytes × Bytes))) (fun (⟨left, leftC, X⟩ : (List (Bytes × Bytes)) × (Option (Bytes × Value)) × (List (Bytes × Bytes))) => (R39.CopyJ D m left X)) (fun (⟨left, leftC, X⟩ : (List (Bytes × Bytes)) × (Option (Bytes × Value)) × (List (Bytes × Bytes))) => [(0, Value.map (some dB)), (7, pB it3 0)]) (fun (⟨left, leftC, X⟩ : (List (Bytes × Bytes)) × (Option (Bytes × Value)) × (List (Bytes × Bytes))) => [Ent.rng vS it3 mB es1 ck2 (left.map kvS) leftC, Ent.mp vS dB (X.map kvS)]) (fun (⟨left, leftC, X⟩ : (List (Bytes × Bytes)) × (Option (Bytes × Value)) × (List (Bytes × Bytes))) => left.length) ((m, (none : Option (Bytes × Value)), D) : (List (Bytes × Bytes)) × (Option (Bytes × Value)) × (List (Bytes × Bytes))) ?_ ⟨rfl, rfl, trivial⟩ (fun _ h => h) ?_
 ·try dsimp only
  exact R39.CopyJ.start
 rintro ⟨left, leftC, X⟩ hI1
 have i1_0 := hI1
 try dsimp only at i1_0
 try dsimp only
 refine q_ (g_ ?_)
 refine JO_op rfl trivial (O_nextR 0 (f := vS) kvS rfl rfl hmx5 hborn4 (fun left0 => ?_) (fun lefta leftn lefth => ?_))
 ·refine s_ (ex_ 0) (z_ (n_ (q_ (iff_ (J_exit (ne_ (re_ (kh_ ?_))))))))
  refine JX_end0 Tryd.results100 [Ent.mp vS dB (X.map kvS)] (fun _ h => h.keep [false, true] rfl) ⟨X, ?_, ?_, ?_⟩
  ·rfl
  ·rfl
  ·exact i1_0.done left0
 ·have leftl := (List.getElem?_eq_some_iff.1 lefth).1
  have lefte := List.length_eraseIdx_of_lt leftl
  have leftm := List.mem_of_getElem? lefth
  refine s_ (ex_ 0) (z_ (n_ (q_ (ift (sk_ (n_ (k_ (q_ (g_ (r_ (O_entryR 0 (f := vS) (p := kvS lefta) rfl rfl hmx5 hborn4) (s_ (ex_ 0) (s_ (ex_ 1) (s_ av_ (s_ av_ (z_ (n_ (g_ (s_ mv_ ?_))))))))))))))))))
  refine s_ mv_ (s_ mv_ (o_ (O_mapUpdate 1 (f := vS) (k := lefta.1) ((putK X lefta.1 lefta.2).map kvS) [Ent.rng vS it3 mB es1 ck2 ((left.eraseIdx leftn).map kvS) (some (kvS lefta)), Ent.mp vS dB ((putK X lefta.1 lefta.2).map kvS)] rfl rfl rfl rfl Tryd.underlying22 (mapK_s Tryd.underlying9) (upd_kv X lefta.1 lefta.2) rfl ?_)))
  refine z_ (kx_ ?_)
  refine JX_round (((left.eraseIdx leftn), (some (kvS lefta)), (putK X lefta.1 lefta.2)) : (List (Bytes × Bytes)) × (Option (Bytes × Value)) × (List (Bytes × Bytes))) ?_ ?_ ⟨rfl, rfl, trivial⟩ (fun _ h => h)
  ·try dsimp only
   exact i1_0.step q0 lefth
  ·try dsimp only
   omega
end Go.Proofs.YtbfiibgmgopnaaaDoor

namespace Go.Proofs.YtbfiibgmgopnaaaDoor
open Go.GV
namespace R39
theorem key_cases (x : Bytes) : x = wSET ∨ x = wPROC ∨ x = wEND ∨ x = wCALL ∨ x = wJOB ∨ x = wSTEP ∨ x = wDD ∨ (x ≠ wSET ∧ x ≠ wPROC ∧ x ≠ wEND ∧ x ≠ wCALL ∧ x ≠ wJOB ∧ x ≠ wSTEP ∧ x ≠ wDD) := by
  by_cases h1 : x = wSET
  · exact .inl h1
  by_cases h2 : x = wPROC
  · exact .inr (.inl h2)
  by_cases h3 : x = wEND
  · exact .inr (.inr (.inl h3))
  by_cases h4 : x = wCALL
  · exact .inr (.inr (.inr (.inl h4)))
  by_cases h5 : x = wJOB
  · exact .inr (.inr (.inr (.inr (.inl h5))))
  by_cases h6 : x = wSTEP
  · exact .inr (.inr (.inr (.inr (.inr (.inl h6)))))
  by_cases h7 : x = wDD
  · exact .inr (.inr (.inr (.inr (.inr (.inr (.inl h7))))))
  exact .inr (.inr (.inr (.inr (.inr (.inr (.inr ⟨h1, h2, h3, h4, h5, h6, h7⟩))))))
theorem keys_none {x : Bytes} (h1 : x ≠ wSET) (h2 : x ≠ wPROC) (h3 : x ≠ wEND) (h4 : x ≠ wCALL) (h5 : x ≠ wJOB) (h6 : x ≠ wSTEP) (h7 : x ≠ wDD) : x ≠ wSET ∧ x ≠ wPROC ∧ x ≠ wEND ∧ x ≠ wCALL ∧ x ≠ wJOB ∧ x ≠ wSTEP ∧ x ≠ wDD := ⟨h1, h2, h3, h4, h5, h6, h7⟩
theorem len0 {ws : List Bytes} (h : ((ws.length : Nat) : Int) = 0) : ws = [] := List.length_eq_zero_iff.1 (by omega)
theorem len1 {ws : List Bytes} (h : ¬ ((ws.length : Nat) : Int) = 0) : ws ≠ [] := fun e => h (by rw [e]; rfl)
def LnJ (R : Res (Nat × RS)) (n fl fc : Int) (s : RS) : Prop := (∃ k : Nat, R = .ok (k, s) ∧ n = k ∧ fl = 0 ∧ fc = 0) ∨ (R = .error (fl, fc) ∧ fc ≠ 0)
theorem LnJ.zero {R : Res (Nat × RS)} {s : RS} (h : R = .ok (0, s)) : LnJ R 0 0 0 s := .inl ⟨0, h, rfl, rfl, rfl⟩
theorem LnJ.err {R : Res (Nat × RS)} {n a b : Int} {s : RS} (h : R = .error (a, b)) (hb : b ≠ 0) : LnJ R n a b s := .inr ⟨h, hb⟩
section
variable {cl : Bytes} {x : Row} {rest : List Row} {s : RS}
theorem idle_yes {t : Bytes} (h : (decide (trim t = []) || decide ((trim t).getD 0 0 = 35)) = true) : idle t = true := by
  unfold idle
  cases e : trim t with
  | nil => rfl
  | cons c r =>
    rw [e] at h
    rw [decide_eq_false (List.cons_ne_nil c r)] at h
    exact h
theorem idle_no {t : Bytes} (h : (decide (trim t = []) || decide ((trim t).getD 0 0 = 35)) = false) : idle t = false := by
  unfold idle
  cases e : trim t with
  | nil => rw [e] at h; cases h
  | cons c r =>
    rw [e] at h
    rw [decide_eq_false (List.cons_ne_nil c r)] at h
    exact h
theorem replV_code {m : Syms} {t : Bytes} (h : ¬ exE (replV m t) ≠ 0) : replV m t = .ok (exV (replV m t)) := by
  have key : ∀ e, replV m t = .error e → e ≠ 0 := fun e he => by
    unfold replV at he
    split at he
    · split at he
      · cases he; decide
      · cases he
    · rename_i e2 hr; cases he; exact repl_code _ _ hr
  cases e : replV m t with
  | ok z => rfl
  | error c => rw [e] at h; exact absurd (key c e) h
where
  repl_code {m : Syms} (t : Bytes) (e : Int) (h : repl m t = .error e) : e ≠ 0 := go (t.length + 1) t h
  go {m : Syms} {e : Int} : ∀ (n : Nat) (t : Bytes), replN m n t = .error e → e ≠ 0
  | 0, _, h => by cases h
  | _ + 1, [], h => by cases h
  | n + 1, c :: t, h => by
    rw [replN] at h
    split at h
    · split at h
      · cases hr : replN m n t.tail with
        | ok z => rw [hr] at h; cases h
        | error e2 => rw [hr] at h; cases h; exact go n _ hr
      · split at h
        · cases h; decide
        · split at h
          · split at h
            · cases h; decide
            · rename_i r _ _ _ v _
              cases hr : replN m n r with
              | ok z => rw [hr] at h; cases h
              | error e2 => rw [hr] at h; cases h; exact go n _ hr
          · cases h; decide
    · cases hr : replN m n t with
      | ok z => rw [hr] at h; cases h
      | error e2 => rw [hr] at h; cases h; exact go n _ hr
theorem replV_bad {m : Syms} {t : Bytes} (h : exE (replV m t) ≠ 0) : replV m t = .error (exE (replV m t)) := by
  cases e : replV m t with
  | ok z => rw [e] at h; exact absurd rfl h
  | error c => rfl
theorem scan_bad' {t : Bytes} (h : scanE t ≠ 0) : scan t = none := by
  unfold scanE at h
  cases e : scan t with
  | none => rfl
  | some l => rw [e] at h; exact absurd rfl h
theorem scan_good {t : Bytes} (h : ¬ scanE t ≠ 0) : scan t = some (scanW t) := by
  unfold scanE at h; unfold scanW
  cases e : scan t with
  | none => rw [e] at h; exact absurd (by decide) h
  | some l => rfl
inductive LnK (x : Row) (m : Syms) : List Bytes → Prop
  | mk {ws : List Bytes} (h1 : idle x.text = false) (h2 : replV m x.text = .ok (exV (replV m x.text))) (h3 : scan (exV (replV m x.text)) = some ws) : LnK x m ws
theorem in_idle (h : (decide (trim x.text = []) || decide ((trim x.text).getD 0 0 = 35)) = true) : lineIn cl x rest s = .ok (0, s) := by unfold lineIn; rw [if_pos (idle_yes h)]
theorem in_repl (h : (decide (trim x.text = []) || decide ((trim x.text).getD 0 0 = 35)) = false) (h2 : exE (replV s.syms x.text) ≠ 0) : lineIn cl x rest s = .error (x.number, exE (replV s.syms x.text)) := by
  unfold lineIn; rw [if_neg (by rw [idle_no h]; decide)]
  rw [replV_bad h2]; rfl
theorem in_scan (h : (decide (trim x.text = []) || decide ((trim x.text).getD 0 0 = 35)) = false) (h2 : ¬ exE (replV s.syms x.text) ≠ 0) (h3 : scanE (exV (replV s.syms x.text)) ≠ 0) : lineIn cl x rest s = .error (x.number, scanE (exV (replV s.syms x.text))) := by
  have e3 : scanE (exV (replV s.syms x.text)) = 3 := by unfold scanE; rw [scan_bad' h3]
  rw [e3]
  unfold lineIn; rw [if_neg (by rw [idle_no h]; decide), replV_code h2]
  show (match scan (exV (replV s.syms x.text)) with | none => _ | some ws => _) = _
  rw [scan_bad' h3]
theorem LnK.of (h : (decide (trim x.text = []) || decide ((trim x.text).getD 0 0 = 35)) = false) (h2 : ¬ exE (replV s.syms x.text) ≠ 0) (h3 : ¬ scanE (exV (replV s.syms x.text)) ≠ 0) {ws : List Bytes} (hw : ws = scanW (exV (replV s.syms x.text))) : LnK x s.syms ws :=
  .mk (idle_no h) (replV_code h2) (by rw [hw]; exact scan_good h3)
section
variable {ws : List Bytes} (h : LnK x s.syms ws)
include h
theorem in_words : lineIn cl x rest s = if ws = [] then .ok (0, s)
      else if ws.getD 0 [] = wJOB ∨ ws.getD 0 [] = wSTEP ∨ ws.getD 0 [] = wDD then stmV x.number cl ws rest s
      else if ws.getD 0 [] = wSET ∨ ws.getD 0 [] = wPROC ∨ ws.getD 0 [] = wEND ∨ ws.getD 0 [] = wCALL then .error (x.number, 9)
      else .error (x.number, 3) := by
  cases h with
  | mk h1 h2 h3 =>
    unfold lineIn; rw [if_neg (by rw [h1]; decide), h2]
    show (match scan (exV (replV s.syms x.text)) with | none => _ | some ws => _) = _
    rw [h3]
theorem in_none (h0 : ws = []) : lineIn cl x rest s = .ok (0, s) := by rw [in_words h, if_pos h0]
theorem in_stm (h0 : ws ≠ []) (hk : ws.getD 0 [] = wJOB ∨ ws.getD 0 [] = wSTEP ∨ ws.getD 0 [] = wDD) : lineIn cl x rest s = stmV x.number cl ws rest s := by rw [in_words h, if_neg h0, if_pos hk]
theorem in_nine (h0 : ws ≠ []) (hk : ws.getD 0 [] = wSET ∨ ws.getD 0 [] = wPROC ∨ ws.getD 0 [] = wEND ∨ ws.getD 0 [] = wCALL) : lineIn cl x rest s = .error (x.number, 9) := by
  rw [in_words h, if_neg h0, if_neg (by rcases hk with hk | hk | hk | hk <;> rw [hk] <;> decide), if_pos hk]
theorem in_three (h0 : ws ≠ []) (hk : ws.getD 0 [] ≠ wSET ∧ ws.getD 0 [] ≠ wPROC ∧ ws.getD 0 [] ≠ wEND ∧ ws.getD 0 [] ≠ wCALL ∧ ws.getD 0 [] ≠ wJOB ∧ ws.getD 0 [] ≠ wSTEP ∧ ws.getD 0 [] ≠ wDD) : lineIn cl x rest s = .error (x.number, 3) := by
  obtain ⟨k1, k2, k3, k4, k5, k6, k7⟩ := hk
  rw [in_words h, if_neg h0, if_neg (fun hh => by rcases hh with e | e | e <;> first | exact k5 e | exact k6 e | exact k7 e), if_neg (fun hh => by rcases hh with e | e | e | e <;> first | exact k1 e | exact k2 e | exact k3 e | exact k4 e)]
end
end
section
variable {R : Res (Nat × List Bytes)} {o y : List Statement} {e : Statement} {l : List Bytes} {n fl fc : Int}
theorem StmJ.new (h : StmJ R o y e l n fl fc) : y = o ++ y.drop o.length := by
  rcases h with ⟨_, _, rfl, _⟩ | ⟨_, _, rfl⟩
  · rw [List.drop_left]
  · rw [List.drop_length, List.append_nil]
theorem StmJ.few (h : StmJ R o y e l n fl fc) : (y.drop o.length).length ≤ 1 := by
  rcases h with ⟨_, _, rfl, _⟩ | ⟨_, _, rfl⟩
  · rw [List.drop_left]; exact Nat.le_refl _
  · rw [List.drop_length]; exact Nat.zero_le _
theorem StmJ.kept {S : List Nat} {w : World} (h : StmJ R o y e l n fl fc) (hk : Kp S w (Statement.ok e)) : Kp S w (okL Statement.ok (y.drop o.length)) := by
  rcases h with ⟨_, _, rfl, _⟩ | ⟨_, _, rfl⟩
  · rw [List.drop_left]
    have h0 : Kp S w (okL Statement.ok ([] : List Statement)) := okL_nil (Kp.and kp_cnil (Kp.and kp_cnil (Kp.pure (Nat.zero_le _))))
    exact okL_snoc h0 hk
  · rw [List.drop_length]; exact okL_nil (Kp.and kp_cnil (Kp.and kp_cnil (Kp.pure (Nat.zero_le _))))
theorem StmJ.line {cl : Bytes} {x : Int} {ws : List Bytes} {rest : List Row} {m : Syms} {P : List (Bytes × Pr)} (h : StmJ (stmN o.length x ws rest) o y e l n fl fc) (he : pur e = ⟨x, cl, ws, l⟩) : LnJ (stmV x cl ws rest ⟨m, P, o.map pur⟩) n fl fc ⟨m, P, (o ++ y.drop o.length).map pur⟩ := by
  have hq := stmV_eq x cl ws rest ⟨m, P, o.map pur⟩
  rw [show (⟨m, P, o.map pur⟩ : RS).out.length = o.length from List.length_map ..] at hq
  rw [← h.new]
  rcases h with ⟨k, hr, rfl, h1, h2, h3⟩ | ⟨hr, h1, rfl⟩
  · rw [hr] at hq
    refine .inl ⟨k, ?_, h1, h2, h3⟩
    rw [hq, List.map_append]
    show Except.ok (k, (⟨m, P, o.map pur ++ [_]⟩ : RS)) = _
    rw [← he]; rfl
  · rw [hr] at hq
    exact .inr ⟨hq, h1⟩
end
theorem okN_nil {S : List Nat} {w : World} : Kp S w (okL Statement.ok ([] : List Statement)) := okL_nil (Kp.and kp_cnil (Kp.and kp_cnil (Kp.pure (Nat.zero_le _))))
theorem inl_rows : ∀ (n : Int) (k : Nat) (r : List Row) (l : List Bytes), inl n k r = .ok l → l.length < r.length
  | _, _, [], _, h => by cases h
  | n, k, x :: r, l, h => by
    rw [inl] at h
    split at h
    · cases h; exact Nat.succ_pos _
    · split at h
      · cases h
      · cases hr : inl n (k + 1) r with
        | error y => rw [hr] at h; cases h
        | ok l2 => rw [hr] at h; cases h; have := inl_rows n (k + 1) r l2 hr; rw [List.length_cons, List.length_cons]; omega
theorem stmV_rows {n : Int} {cl : Bytes} {ws : List Bytes} {rest : List Row} {s t : RS} {k : Nat} (h : stmV n cl ws rest s = .ok (k, t)) : k ≤ rest.length := by
  unfold stmV at h
  split at h
  · cases h
  · split at h
    · cases hi : inl n 0 rest with
      | error e => rw [hi] at h; cases h
      | ok l => rw [hi] at h; cases h; exact inl_rows n 0 rest l hi
    · cases h; exact Nat.zero_le _
theorem lineIn_rows {cl : Bytes} {x : Row} {rest : List Row} {s t : RS} {k : Nat} (h : lineIn cl x rest s = .ok (k, t)) : k ≤ rest.length := by
  unfold lineIn at h
  split at h
  · cases h; exact Nat.zero_le _
  · split at h
    · cases h
    · split at h
      · cases h
      · split at h
        · cases h; exact Nat.zero_le _
        · split at h
          · exact stmV_rows h
          · split at h <;> cases h
end R39
end Go.Proofs.YtbfiibgmgopnaaaDoor
