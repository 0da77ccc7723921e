/- C40j, C40k, C40l, C40n, L40w, GvX, GvSz in one text. -/
import Derived.Test.YtngjdmhpljmkpaaGreatDoorCards
import Derived.Test.YtngjdmhpljmkpaaGreatDoorTie
import Derived.Test.YtngjdmhpljmkpaaGreatDoorC40i
import Derived.Test.YtngjdmhpljmkpaaGreatDoorConditionWords20
import Derived.Test.YtngjdmhpljmkpaaGreatDoorConditionWords9
import Derived.Test.YtngjdmhpljmkpaaGreatDoorConditionWords8
import Derived.Test.YtngjdmhpljmkpaaGreatDoorC40t
import Derived.Test.YtngjdmhpljmkpaaGreatDoorRows
import GoSem.ClaimSeven
import Derived.LaidByTextLater
import Derived.SevenTiedAt
import Derived.LaidSub
import Derived.LaidOnce
import Derived.Test.YtngjdmhpljmkpaaGreatDoorConditionWords3
import Derived.SizedLaws
import Derived.Handed
set_option linter.unusedVariables false
set_option linter.unusedSimpArgs false
namespace Go.Proofs.YtngjdmhpljmkpaaGreatDoor
open Go.GV
set_option linter.unusedVariables false
set_option linter.unusedSimpArgs false
theorem Tf12_ok_ {p : Prop} (h : p := by first | (have hd := R40.format_no (ts := ts) (by assumption); first | (rw [hd]; done) | (rw [hd]; rfl)) | (have hd := R40.format_yes (ts := ts) (by assumption); first | (rw [hd]; done) | (rw [hd]; rfl)) | (have hd := R40.format_no (ts := ts) (by simp_all); first | (rw [hd]; done) | (rw [hd]; rfl))) : p := h
set_option maxRecDepth 20000 in
theorem f12_ok (ts : List Test) (tsA : Option Addr) (tsC : Nat) (w : World) (tsR : RO [] w tsA (ts.flatMap Test.enc)) (hT : Tab [] w) (q0 : ts.length ≤ 9223372036854775807) (q1 : ∀ i, (ts.getD i default).Step.length ≤ 1000000) : Calls Tryz.prog 12 #[vL tsA ts.length tsC] w (Gives [] w fun v L => ∃ A2 : Option Addr, ∃ c2 : Nat, v = vL A2 ((R40.formatV ts).length) c2 ∧ L = [Ent.row (.slice A2 (R40.formatV ts).length c2) 9 1 (R40.formatV ts).length ((R40.formatV ts).map vS)]) := by
 refine calls_J [] 14 Tryz.func12 rfl Tryz.ntmps12 [(0, _)] rfl rfl (Give.nil w) ?_
 refine q_ (g_ (s_ av_ (z_ (n_ (q_ (g_ (s_ mv_ (c0 (cl_ Ty.ca25) (fun w hS => ftree_nm ts tsA tsC w (rno tsR hS) (hT.on hS (fun _ h => by cases h)) hy_ hy_) (s_ mv_ (s_ (ex_ 0) (s_ (ex_ 1) (s_ av_ (s_ av_ ?_)))))))))))))
 refine z_ (n_ (q_ (q_ (g_ (s_ mv_ (s_ (x_not rfl) (z_ (n_ ?_))))))))
 refine if_ (fun h1 => ?_) (fun h1 => ?_)
 ·have h1w := h1
  have h1 : ((R40.treeV R40.stepV ts).isSome) = false := bnot_true h1
  refine q_ (g_ (s_ av_ (z_ (n_ (rt_ (nr_ ?_))))))
  refine JX_rets [_] _ Tryz.results12 (fun w h => ⟨rfl, trivial⟩) rfl [Ent.row (.slice none ([] : List Bytes).length 0) 9 1 ([] : List Bytes).length (([] : List Bytes).map vS)] (fun _ h => (h.nilrow 9 1).keep [true] rfl) ⟨none, 0, ?_, ?_⟩
  ·have e_x0 : (0 : Nat) = ((R40.formatV ts).length) := Tf12_ok_
   exact congrArg (fun (x0 : Nat) => vL none x0 0) e_x0
  ·have e_y0 : (([] : List Bytes) : List Bytes) = (R40.formatV ts) := by
    exact Tf12_ok_
   have e_all := (congrArg (fun (y0 : List Bytes) => [Ent.row (.slice none y0.length 0) 9 1 y0.length (y0.map vS)]) e_y0)
   exact e_all
 ·have h1w := h1
  have h1 : ((R40.treeV R40.stepV ts).isSome) = true := bnot_false h1
  have hgt := R40.tree_good (by assumption : (R40.treeV R40.stepV ts).isSome = true)
  refine J_weaken (E' := [(0, vL tsA ts.length tsC), (2, vL none 0 0), (6, vL tsA ts.length tsC), (7, Value.tuple #[nodeO (R40.treeV R40.stepV ts), vB ((R40.treeV R40.stepV ts).isSome)]), (5, Value.tuple #[nodeO (R40.treeV R40.stepV ts), vB ((R40.treeV R40.stepV ts).isSome)]), (8, nodeV ((R40.treeV R40.stepV ts).getD default)), (9, vB ((R40.treeV R40.stepV ts).isSome)), (3, nodeV ((R40.treeV R40.stepV ts).getD default)), (4, vB ((R40.treeV R40.stepV ts).isSome)), (10, vB ((R40.treeV R40.stepV ts).isSome)), (11, vB (!((R40.treeV R40.stepV ts).isSome)))]) (L' := []) ⟨rfl, rfl, rfl, rfl, rfl, (congrArg some (nodeO_some (by assumption))), rfl, (congrArg some (nodeO_some (by assumption))), rfl, rfl, rfl, trivial⟩ (fun _ h => h) ?_
  refine sk_ (n_ (q_ (g_ (s_ mv_ ?_))))
  refine c1 (cl_ Ty.ca27) (fun w hS => f27_ok _ 0 w (hT.on hS (fun _ h => by cases h)) (by exact hgt.1) (by exact hgt.2) (by first | omega | (split <;> omega))) ?_
  rintro _ _ ⟨e2, e3, rfl, rfl⟩
  refine s_ av_ (z_ (n_ (rt_ ?_)))
  refine JX_rets [_] _ Tryz.results12 (fun w h => ⟨rfl, trivial⟩) rfl _ (fun _ h => h) ⟨e2, e3, ?_, ?_⟩
  ·have e_x0 : ((R40.wordsV ((R40.treeV R40.stepV ts).getD default) 0).length : Nat) = ((R40.formatV ts).length) := Tf12_ok_
   exact congrArg (fun (x0 : Nat) => vL e2 x0 e3) e_x0
  ·have e_y0 : ((R40.wordsV ((R40.treeV R40.stepV ts).getD default) 0) : List Bytes) = (R40.formatV ts) := by
    exact Tf12_ok_
   have e_all := (congrArg (fun (y0 : List Bytes) => [Ent.row (.slice e2 y0.length e3) 9 1 y0.length (y0.map vS)]) e_y0)
   exact e_all
set_option maxRecDepth 20000 in
theorem f8_ok (ws : List Bytes) (wsA : Option Addr) (wsC : Nat) (w : World) (wsR : RO [] w wsA (ws.map vS)) (hT : Tab [] w) (q0 : ws.length ≤ 1000000) (q1 : ∀ k, (ws.getD k []).length ≤ 140737488355328) : Calls Tryz.prog 8 #[vL wsA ws.length wsC] w (Gives [] w fun v L => ∃ A2 : Option Addr, ∃ c2 : Nat, v = Value.tuple #[vL A2 ((R40.parseV ws).out.length) c2, vI ((R40.parseV ws).at_), vI ((R40.parseV ws).e)] ∧ L = [Ent.row (.slice A2 ((R40.parseV ws).out).length c2) 40 4 ((R40.parseV ws).out).length (((R40.parseV ws).out).flatMap Test.enc)]) := by
 refine calls_J [] 38 Tryz.func8 rfl Tryz.ntmps8 [(0, _)] rfl rfl (Give.nil w) ?_
 refine q_ (g_ (s_ av_ (s_ av_ (s_ av_ (z_ (n_ (q_ (q_ (g_ (s_ mv_ (s_ (lnS Tryz.underlying22) (s_ (x_eql_i rfl rfl) (z_ (n_ ?_))))))))))))))
 refine ifd (fun h1w h1 => ?_) (fun h1w h1 => ?_)
 ·refine q_ (g_ (s_ av_ (s_ av_ (s_ av_ (z_ (n_ (rt_ (nr_ ?_))))))))
  first
   | have hd := R40.parse_nil (ws := ws) (by omega)
   | have hd := R40.parse_bad (ws := ws) (by omega) (.inl (by assumption))
   | have hd := R40.parse_bad (ws := ws) (by omega) (.inr (by omega))
   | have hd := R40.parse_bad (ws := ws) (by omega) (Or.imp_right Int.ofNat_lt.1 (by assumption))
   | have hd := R40.parse_big (ws := ws) (by omega) (by assumption) (by omega) no_such_condition (by omega)
   | have hd := R40.parse_ok (ws := ws) (by omega) (by assumption) (by omega) no_such_condition (by omega)
  refine JX_rets [_, _, _] (Value.tuple #[_, _, _]) Tryz.results8 (fun w h => ⟨rfl, rfl, rfl, trivial⟩) rfl [Ent.row (.slice none ([] : List Test).length 0) 40 4 ([] : List Test).length (([] : List Test).flatMap Test.enc)] (fun _ h => (h.nilrow 40 4).keep [true] rfl) ⟨none, 0, ?_, ?_⟩
  ·have e_x0 : (0 : Nat) = ((R40.parseV ws).out.length) := by first | (rw [hd]; done) | (rw [hd]; rfl)
   have e_x1 : (0 : Int) = ((R40.parseV ws).at_) := by first | (rw [hd]; done) | (rw [hd]; rfl)
   have e_x2 : (0 : Int) = ((R40.parseV ws).e) := by first | (rw [hd]; done) | (rw [hd]; rfl)
   have e_all := (congr (congr (congrArg (fun (x0 : Nat) (x1 : Int) (x2 : Int) => Value.tuple #[vL none x0 0, vI x1, vI x2]) e_x0) e_x1) e_x2)
   exact e_all
  ·have e_y0 : (([] : List Test) : List Test) = (R40.parseV ws).out := by
    first | (rw [hd]; done) | (rw [hd]; rfl)
   have e_all := (congrArg (fun (y0 : List Test) => [Ent.row (.slice none y0.length 0) 40 4 y0.length (y0.flatMap Test.enc)]) e_y0)
   exact e_all
 ·refine sk_ (n_ (q_ (g_ (s_ mv_ (js_ (vG [vL wsA ws.length wsC, vI 0, vL none 0 0]) (x_build (by kernel_rfl)) (o_ (bxG fun b2 => ?_)))))))
  refine s_ av_ (z_ (n_ (q_ (q_ (g_ (s_ mv_ ?_))))))
  refine JO_call (Lown [Ent.blk b2 43 [vL wsA ws.length wsC, vI ((0 : Nat) : Int), vL none 0 0], Ent.row (.slice none 0 0) 40 4 0 (([] : List Test).flatMap Test.enc)]) [Ent.blk b2 43 [vL wsA ws.length wsC, vI ((0 : Nat) : Int), vL none 0 0], Ent.row (.slice none 0 0) 40 4 0 (([] : List Test).flatMap Test.enc)] [] rfl trivial (fun _ => x_call Ty.ca21 rfl) (fun _ h => ((h.nilrow 40 4).front 1 _ rfl).keep [true, true] rfl) lown_mem (fun w hS => f21_ok b2 ws wsA wsC 0 ([] : List Test) none 0 0 ws.length w (wsR.on hS lown_mem) (hT.on hS lown_mem) hy_ hy_ hy_ hy_ hy_ (by exact or_all _) (by omega) (hS.give lown_in)) ?_
  rintro _ _ ⟨y3, yA4, yC5, rfl, rfl, hf6, hf7, hf8, hf9, hf10⟩
  try simp only [List.length_cons, List.length_nil, Nat.zero_add, Nat.reduceAdd] at hf6
  try simp only [List.length_cons, List.length_nil, Nat.zero_add, Nat.reduceAdd] at hf7
  refine s_ (x_not rfl) (s_ mv_ ?_)
  refine or_ 7 (decide ((((R40.orN ws (ws.length + 1) 0).pos : Nat) : Int) < ((ws.length : Nat) : Int))) (fun g11 => ?_) ?_
  ·have g11r := g11
   have g11r : ((R40.orN ws (ws.length + 1) 0).ok) = true := bnot_false g11r
   refine sg_ g11 mv_ (sg_ g11 (x_nilCheck rfl) (sg_ g11 (fA 1 Ty.fi43_1) (rg_ g11 (ld_ 0 Ty.sc3) (sg_ g11 mv_ (sg_ g11 (lnS Tryz.underlying22) (sg_ g11 (x_lss_i rfl rfl) ?_))))))
   exact cr_
  refine z_ (n_ ?_)
  refine if_ (fun h12 => ?_) (fun h12 => ?_)
  ·have h12w := h12
   simp only [Bool.and_eq_true, Bool.or_eq_true, Bool.and_eq_false_iff, Bool.or_eq_false_iff, Bool.not_eq_true', Bool.not_eq_false', decide_eq_true_eq, decide_eq_false_iff_not] at h12
   refine q_ ?_
   refine drB [] 7 Ty.mixed ?_
   refine jp_ 0 rfl mv_ (jp_ 1 rfl (x_nilCheck rfl) (jp_ 2 rfl (fA 1 Ty.fi43_1) (jq_ 3 rfl (ld_ 0 Ty.sc3) (jp_ 4 rfl av_ (jp_ 5 rfl av_ (jp_ 6 rfl av_ ?_))))))
   refine JA_done (by kernel_rfl) gm_ ?_
   refine n_ (rt_ (nr_ ?_))
   first
    | have hd := R40.parse_nil (ws := ws) (by omega)
    | have hd := R40.parse_bad (ws := ws) (by omega) (.inl (by assumption))
    | have hd := R40.parse_bad (ws := ws) (by omega) (.inr (by omega))
    | have hd := R40.parse_bad (ws := ws) (by omega) (Or.imp_right Int.ofNat_lt.1 (by assumption))
    | have hd := R40.parse_big (ws := ws) (by omega) (by assumption) (by omega) hf6 (by omega)
    | have hd := R40.parse_ok (ws := ws) (by omega) (by assumption) (by omega) hf6 (by omega)
   refine JX_rets [_, _, _] (Value.tuple #[_, _, _]) Tryz.results8 (fun w h => ⟨rfl, rfl, rfl, trivial⟩) rfl [Ent.row (.slice none ([] : List Test).length 0) 40 4 ([] : List Test).length (([] : List Test).flatMap Test.enc)] (fun _ h => (h.nilrow 40 4).keep [true, false, false] rfl) ⟨none, 0, ?_, ?_⟩
   ·have e_x0 : (0 : Nat) = ((R40.parseV ws).out.length) := by first | (rw [hd]; done) | (rw [hd]; rfl)
    have e_x1 : ((((R40.orN ws (ws.length + 1) 0).pos : Nat) : Int) : Int) = ((R40.parseV ws).at_) := by first | (rw [hd]; done) | (rw [hd]; rfl)
    have e_x2 : (3 : Int) = ((R40.parseV ws).e) := by first | (rw [hd]; done) | (rw [hd]; rfl)
    have e_all := (congr (congr (congrArg (fun (x0 : Nat) (x1 : Int) (x2 : Int) => Value.tuple #[vL none x0 0, vI x1, vI x2]) e_x0) e_x1) e_x2)
    exact e_all
   ·have e_y0 : (([] : List Test) : List Test) = (R40.parseV ws).out := by
     first | (rw [hd]; done) | (rw [hd]; rfl)
    have e_all := (congrArg (fun (y0 : List Test) => [Ent.row (.slice none y0.length 0) 40 4 y0.length (y0.flatMap Test.enc)]) e_y0)
    exact e_all
  ·have h12w := h12
   have ⟨h12, h13⟩ := bor_false h12
   have h12 : ((R40.orN ws (ws.length + 1) 0).ok) = true := bnot_false h12
   have h13 := of_decide_eq_false h13
   refine sk_ (n_ (q_ (q_ (g_ (s_ mv_ (s_ (x_nilCheck rfl) (s_ (fA 2 Ty.fi43_2) (r_ (ld_ 0 Ty.sc23) (s_ (lnS Tryz.underlying23) (s_ (x_gtr_i rfl rfl) (z_ (xk_ [2, 3, 4, 5, 33] ?_))))))))))))
   refine n_ ?_
   refine ifd (fun h14w h14 => ?_) (fun h14w h14 => ?_)
   ·refine q_ (g_ (s_ av_ (s_ av_ (s_ av_ (z_ (n_ (rt_ (nr_ ?_))))))))
    first
     | have hd := R40.parse_nil (ws := ws) (by omega)
     | have hd := R40.parse_bad (ws := ws) (by omega) (.inl (by assumption))
     | have hd := R40.parse_bad (ws := ws) (by omega) (.inr (by omega))
     | have hd := R40.parse_bad (ws := ws) (by omega) (Or.imp_right Int.ofNat_lt.1 (by assumption))
     | have hd := R40.parse_big (ws := ws) (by omega) (by assumption) (by omega) hf6 (by omega)
     | have hd := R40.parse_ok (ws := ws) (by omega) (by assumption) (by omega) hf6 (by omega)
    refine JX_rets [_, _, _] (Value.tuple #[_, _, _]) Tryz.results8 (fun w h => ⟨rfl, rfl, rfl, trivial⟩) rfl [Ent.row (.slice none ([] : List Test).length 0) 40 4 ([] : List Test).length (([] : List Test).flatMap Test.enc)] (fun _ h => (h.nilrow 40 4).keep [true, false, false] rfl) ⟨none, 0, ?_, ?_⟩
    ·have e_x0 : (0 : Nat) = ((R40.parseV ws).out.length) := by first | (rw [hd]; done) | (rw [hd]; rfl)
     have e_x1 : (0 : Int) = ((R40.parseV ws).at_) := by first | (rw [hd]; done) | (rw [hd]; rfl)
     have e_x2 : (8 : Int) = ((R40.parseV ws).e) := by first | (rw [hd]; done) | (rw [hd]; rfl)
     have e_all := (congr (congr (congrArg (fun (x0 : Nat) (x1 : Int) (x2 : Int) => Value.tuple #[vL none x0 0, vI x1, vI x2]) e_x0) e_x1) e_x2)
     exact e_all
    ·have e_y0 : (([] : List Test) : List Test) = (R40.parseV ws).out := by
      first | (rw [hd]; done) | (rw [hd]; rfl)
     have e_all := (congrArg (fun (y0 : List Test) => [Ent.row (.slice none y0.length 0) 40 4 y0.length (y0.flatMap Test.enc)]) e_y0)
     exact e_all
   ·refine sk_ (n_ (q_ (g_ (s_ mv_ (s_ (x_nilCheck rfl) (s_ (fA 2 Ty.fi43_2) (r_ (ld_ 0 Ty.sc23) (s_ av_ (s_ av_ (s_ av_ (z_ (n_ (rt_ ?_)))))))))))))
    first
     | have hd := R40.parse_nil (ws := ws) (by omega)
     | have hd := R40.parse_bad (ws := ws) (by omega) (.inl (by assumption))
     | have hd := R40.parse_bad (ws := ws) (by omega) (.inr (by omega))
     | have hd := R40.parse_bad (ws := ws) (by omega) (Or.imp_right Int.ofNat_lt.1 (by assumption))
     | have hd := R40.parse_big (ws := ws) (by omega) (by assumption) (by omega) hf6 (by omega)
     | have hd := R40.parse_ok (ws := ws) (by omega) (by assumption) (by omega) hf6 (by omega)
    refine JX_rets [_, _, _] (Value.tuple #[_, _, _]) Tryz.results8 (fun w h => ⟨rfl, rfl, rfl, trivial⟩) rfl _ (fun _ h => h.keep [false, true] rfl) ⟨yA4, yC5, ?_, ?_⟩
    ·have e_x0 : (y3.length : Nat) = ((R40.parseV ws).out.length) := by first | (rw [hd]; done) | (rw [hd]; rfl)
     have e_x1 : (0 : Int) = ((R40.parseV ws).at_) := by first | (rw [hd]; done) | (rw [hd]; rfl)
     have e_x2 : (0 : Int) = ((R40.parseV ws).e) := by first | (rw [hd]; done) | (rw [hd]; rfl)
     have e_all := (congr (congr (congrArg (fun (x0 : Nat) (x1 : Int) (x2 : Int) => Value.tuple #[vL yA4 x0 yC5, vI x1, vI x2]) e_x0) e_x1) e_x2)
     exact e_all
    ·have e_y0 : (y3 : List Test) = (R40.parseV ws).out := by
      first | (rw [hd]; done) | (rw [hd]; rfl)
     have e_all := (congrArg (fun (y0 : List Test) => [Ent.row (.slice yA4 y0.length yC5) 40 4 y0.length (y0.flatMap Test.enc)]) e_y0)
     exact e_all
end Go.Proofs.YtngjdmhpljmkpaaGreatDoor

namespace Go.Proofs.YtngjdmhpljmkpaaGreatDoor
open Go.GV
set_option linter.unusedVariables false
set_option linter.unusedSimpArgs false
theorem c40k0_ {p : Prop} (h : p := by first | exact (R40.few_t (k := k) (by omega) (by omega)).symm | exact (R40.few_s (k := k2) (by omega) (by omega)).symm | exact R40.few_i i1_1 (by omega) i2_1 (by omega)) : p := h
set_option maxRecDepth 20000 in
theorem f7_ok (ts : List Test) (tsA : Option Addr) (tsC : Nat) (steps : List Bytes) (stepsA : Option Addr) (stepsC : Nat) (E : List StepEnd) (EA : Option Addr) (EC : Nat) (w : World) (tsR : RO [] w tsA (ts.flatMap Test.enc)) (stepsR : RO [] w stepsA (steps.map vS)) (ER : RO [] w EA (E.flatMap StepEnd.enc)) (q0 : ts.length ≤ 9223372036854775807) (q1 : steps.length ≤ 9223372036854775807) (q2 : E.length ≤ 9223372036854775807) : Calls Tryz.prog 7 #[vL tsA ts.length tsC, vL stepsA steps.length stepsC, vL EA E.length EC] w (Gives [] w fun v L => v = vB (R40.fewV ts steps E.length) ∧ L = []) := by
 refine calls_J [] 45 Tryz.func7 rfl Tryz.ntmps7 [(0, _), (1, _), (2, _)] rfl rfl (Give.nil w) ?_
 refine q_ (g_ (s_ av_ (z_ (n_ (q_ (q_ (g_ (s_ mv_ (s_ (lnS Tryz.underlying23) (s_ mv_ (z_ (n_ (k_ ?_)))))))))))))
 refine J_loop (X := Nat) (fun (k : Nat) => (k ≤ ts.length) ∧ (∀ i, i < k → (ts.getD i default).Step.length ≤ 40)) (fun (k : Nat) => [(0, vL tsA ts.length tsC), (1, vL stepsA steps.length stepsC), (2, vL EA E.length EC), (11, vL tsA ts.length tsC), (12, vI ((ts.length : Nat) : Int)), (13, vI ((k : Nat) : Int))]) (fun (k : Nat) => []) (fun (k : Nat) => ts.length - k) (0 : Nat) ?_ ⟨rfl, rfl, rfl, rfl, rfl, rfl, trivial⟩ (fun _ h => h) ?_
 ·try dsimp only
  refine ⟨?_, ?_⟩
  ·first | rfl | omega | (simp_all; done) | (simp_all; omega)
  ·intro i hi; omega
 intro k hI1
 obtain ⟨i1_0, i1_1⟩ := hI1
 try dsimp only at i1_0
 try dsimp only at i1_1
 try dsimp only
 refine q_ (g_ (s_ (x_lss_i rfl rfl) (z_ (n_ (q_ ?_)))))
 refine ifd (fun h1w h1 => ?_) (fun h1w h1 => ?_)
 ·refine sk_ (n_ (q_ (k_ (q_ (g_ (r_ (ixF Test.enc_len (cells_ro tsR) Tryz.underlying23 Ty.sz40) (r_ (ldFN Test.enc_len (cells_ro tsR) Ty.ag40 Ty.sz40) (o_ (al_ Ty.ze40 fun b2 => ?_)))))))))
  refine o_ (stG 0 Ty.sz40 ?_)
  refine z_ (n_ (q_ (g_ (s_ (fA 1 Ty.fi40_1) (r_ (ld_ 0 Ty.sc9) (s_ (x_len_s rfl Tryz.underlying9) (s_ (x_gtr_i rfl rfl) (z_ (n_ ?_)))))))))
  refine ifd (fun h3w h3 => ?_) (fun h3w h3 => ?_)
  ·refine q_ (g_ (s_ av_ (z_ (n_ (rt_ (kq_ (nr_ (rr_ (kq_ (nr_ ?_))))))))))
   exact p1 Tryz.results7 rfl ⟨(eB c40k0_), rfl⟩
  ·refine sk_ (kx_ (n_ (g_ (s_ (x_add_n (a := k) (b := 1) rfl rfl (by omega)) (s_ mv_ (z_ ?_))))))
   refine JX_round (k + 1 : Nat) ?_ ?_ ⟨rfl, rfl, rfl, rfl, rfl, rfl, trivial⟩ (fun _ h => h.keep [false] rfl)
   ·try dsimp only
    refine ⟨?_, ?_⟩
    ·first | rfl | omega | (simp_all; done) | (simp_all; omega)
    ·intro i hi
     by_cases hik : i = k
     ·subst hik; omega
     ·exact i1_1 i (by omega)
   ·try dsimp only
    first | omega | (simp; omega) | (simp_all; omega)
 ·refine J_exit (ne_ (re_ (kh_ (n_ (q_ ?_)))))
  refine q_ (g_ (s_ mv_ (s_ (lnS Tryz.underlying22) (s_ mv_ (z_ (n_ (k_ ?_)))))))
  refine J_loop (X := Nat) (fun (k2 : Nat) => (k2 ≤ steps.length) ∧ (∀ i, i < k2 → (steps.getD i []).length ≤ 40)) (fun (k2 : Nat) => [(0, vL tsA ts.length tsC), (1, vL stepsA steps.length stepsC), (2, vL EA E.length EC), (22, vL stepsA steps.length stepsC), (23, vI ((steps.length : Nat) : Int)), (24, vI ((k2 : Nat) : Int))]) (fun (k2 : Nat) => []) (fun (k2 : Nat) => steps.length - k2) (0 : Nat) ?_ ⟨rfl, rfl, rfl, rfl, rfl, rfl, trivial⟩ (fun _ h => h) ?_
  ·try dsimp only
   refine ⟨?_, ?_⟩
   ·first | rfl | omega | (simp_all; done) | (simp_all; omega)
   ·intro i hi; omega
  intro k2 hI2
  obtain ⟨i2_0, i2_1⟩ := hI2
  try dsimp only at i2_0
  try dsimp only at i2_1
  try dsimp only
  refine q_ (g_ (s_ (x_lss_i rfl rfl) (z_ (n_ (q_ ?_)))))
  refine ifd (fun h4w h4 => ?_) (fun h4w h4 => ?_)
  ·refine sk_ (n_ (q_ (k_ (q_ (g_ (r_ (ixM (cells_ro stepsR) Tryz.underlying22 Ty.sz9) (r_ (ldM vS [] (cells_ro stepsR) Ty.sc9) (s_ av_ (z_ (n_ (q_ (g_ (s_ mv_ (s_ (x_len_s rfl Tryz.underlying9) (s_ (x_gtr_i rfl rfl) (z_ (n_ ?_)))))))))))))))))
   refine ifd (fun h5w h5 => ?_) (fun h5w h5 => ?_)
   ·refine q_ (g_ (s_ av_ (z_ (n_ (rt_ (kq_ (nr_ (rr_ (kq_ (nr_ ?_))))))))))
    exact p1 Tryz.results7 rfl ⟨(eB c40k0_), rfl⟩
   ·refine sk_ (kx_ (n_ (g_ (s_ (x_add_n (a := k2) (b := 1) rfl rfl (by omega)) (s_ mv_ (z_ ?_))))))
    refine JX_round (k2 + 1 : Nat) ?_ ?_ ⟨rfl, rfl, rfl, rfl, rfl, rfl, trivial⟩ (fun _ h => h)
    ·try dsimp only
     refine ⟨?_, ?_⟩
     ·first | rfl | omega | (simp_all; done) | (simp_all; omega)
     ·intro i hi
      by_cases hik : i = k2
      ·subst hik; omega
      ·exact i2_1 i (by omega)
    ·try dsimp only
     first | omega | (simp; omega) | (simp_all; omega)
  ·refine J_exit (ne_ (re_ (kh_ (n_ (q_ ?_)))))
   refine g_ (s_ mv_ (s_ (lnS Tryz.underlying23) (s_ (x_leq_i rfl rfl) (s_ mv_ ?_))))
   refine and_ 3 (decide (((steps.length : Nat) : Int) ≤ 8)) (fun g6 => ?_) ?_
   ·have g6r := g6
    have g6r := of_decide_eq_true g6r
    refine sg_ g6 mv_ (sg_ g6 (lnS Tryz.underlying22) (sg_ g6 (x_leq_i rfl rfl) ?_))
    exact cr_
   refine s_ mv_ ?_
   refine and_ 3 (decide (((E.length : Nat) : Int) ≤ 10)) (fun g7 => ?_) ?_
   ·have g7r := g7
    have ⟨g7r, h8⟩ := band_true g7r
    have g7r := of_decide_eq_true g7r
    have h8 := of_decide_eq_true h8
    refine sg_ g7 mv_ (sg_ g7 (lnS Tryz.underlying33) (sg_ g7 (x_leq_i rfl rfl) ?_))
    exact cr_
   refine s_ av_ (z_ (n_ (rt_ ?_)))
   exact p1 Tryz.results7 rfl ⟨(eB c40k0_), rfl⟩
end Go.Proofs.YtngjdmhpljmkpaaGreatDoor

namespace Go.Proofs.YtngjdmhpljmkpaaGreatDoor
open Go.GV
set_option linter.unusedVariables false
set_option linter.unusedSimpArgs false
set_option maxRecDepth 20000 in
theorem f6_ok (w : World) (hT : Tab [] w) : Calls Tryz.prog 6 #[] w (Gives [] w fun v L => v = vB true ∧ L = []) := by
 refine calls_J [] 54 Tryz.func6 rfl Tryz.ntmps6 [] rfl rfl (Give.nil w) ?_
 refine q_ (g_ (s_ av_ (z_ (n_ (q_ (g_ (o_ (O_buildSlice (cs := [vS [83, 49], vS [114, 99], vS [60, 61], vS [52], vS [97, 110, 100], vS [110, 111, 116], vS [83, 50], vS [102, 97, 105, 108, 101, 100]]) Tryz.underlying22 Ty.sz9 Ty.ze9 (by decide) (by decide) (by kernel_rfl) fun b1 => ?_))))))))
 refine c1 (cl_ Ty.ca8) (fun w hS => f8_ok [[83, 49], [114, 99], [60, 61], [52], [97, 110, 100], [110, 111, 116], [83, 50], [102, 97, 105, 108, 101, 100]] _ 8 w (RO.of_blk hS 0 (off := 0) (m := 8) rfl rfl) (hT.on hS (fun _ h => by cases h)) hy_ (by exact fun k => Nat.le_trans (R40.lit_all (n := 1000) (by decide) k) (by decide))) ?_
 rintro _ _ ⟨e2, e3, rfl, rfl⟩
 have ha4 := R40.parse_len [[83, 49], [114, 99], [60, 61], [52], [97, 110, 100], [110, 111, 116], [83, 50], [102, 97, 105, 108, 101, 100]]
 try simp only [List.length_cons, List.length_nil, Nat.zero_add, Nat.reduceAdd, Nat.reduceMul] at ha4
 refine s_ mv_ (s_ (ex_ 0) (s_ (ex_ 1) (s_ (ex_ 2) (s_ av_ (s_ av_ (s_ av_ (z_ (n_ (q_ (g_ (o_ (O_buildSlice (cs := [vS [83, 49], vS [83, 50]]) Tryz.underlying22 Ty.sz9 Ty.ze9 (by decide) (by decide) (by kernel_rfl) fun b5 => ?_))))))))))))
 refine s_ av_ (z_ (n_ (q_ (g_ (s_ mv_ (s_ mv_ (js_ (vG [vB true, vB false, vI 8]) (x_build (by kernel_rfl)) (o_ (O_buildSlice (cs := [vB true, vB false, vI 8]) Tryz.underlying33 Ty.sz38 Ty.ze38 (by decide) (by decide) (by kernel_rfl) fun b6 => ?_)))))))))
 refine c0 (cl_ Ty.ca20) (fun w hS => f20_ok R40.AQ false _ e2 e3 [[83, 49], [83, 50]] _ 2 [(StepEnd.mk true false 8)] _ 1 w (RO.of_row hS 2 rfl) (RO.of_blk hS 1 (off := 0) (m := 2) rfl rfl) (RO.of_blk hS 0 (off := 0) (m := 3) rfl rfl) hy_ (by rw [R40.aw_len]; decide) hy_ (by exact R40.aw_is) (by rfl) (by exact R40.aw_step) (by exact R40.aw_end)) (s_ mv_ (s_ (ex_ 0) (s_ (ex_ 1) (s_ av_ (s_ av_ (z_ (xk_ [0, 1, 3, 4, 5, 6] ?_)))))))
 refine n_ (q_ (g_ (s_ mv_ (s_ (x_eql_i rfl rfl) (s_ mv_ ?_)))))
 refine and_ 3 (decide ((((R40.parseV [[83, 49], [114, 99], [60, 61], [52], [97, 110, 100], [110, 111, 116], [83, 50], [102, 97, 105, 108, 101, 100]]).out.length : Nat) : Int) = 4)) (fun g7 => ?_) ?_
 ·have g7r := g7
  have g7r := of_decide_eq_true g7r
  refine sg_ g7 mv_ (sg_ g7 (lnS Tryz.underlying23) (sg_ g7 (x_eql_i rfl rfl) ?_))
  exact cr_
 refine s_ mv_ ?_
 refine and_ 3 ((R40.onV ((R40.parseV [[83, 49], [114, 99], [60, 61], [52], [97, 110, 100], [110, 111, 116], [83, 50], [102, 97, 105, 108, 101, 100]]).out) [[83, 49], [83, 50]]).isSome) (fun g8 => ?_) ?_
 ·have g8r := g8
  have ⟨g8r, h9⟩ := band_true g8r
  have g8r := of_decide_eq_true g8r
  have h9 := of_decide_eq_true h9
  refine sg_ g8 mv_ (sg_ g8 mv_ (c0g g8 (cl_ Ty.ca14) (fun w hS => f14_ok _ e2 e3 [[83, 49], [83, 50]] _ 2 w (RO.of_row hS 2 rfl) (RO.of_blk hS 1 (off := 0) (m := 2) rfl rfl) hy_ (by rw [R40.aw_len]; decide)) ?_))
  exact cr_
 refine s_ mv_ ?_
 refine and_ 5 (R40.evalV ((R40.parseV [[83, 49], [114, 99], [60, 61], [52], [97, 110, 100], [110, 111, 116], [83, 50], [102, 97, 105, 108, 101, 100]]).out) [[83, 49], [83, 50]] [(StepEnd.mk true false 4)]) (fun g10 => ?_) ?_
 ·have g10r := g10
  have ⟨g10r, h11⟩ := band_true g10r
  have ⟨g10r, h12⟩ := band_true g10r
  have g10r := of_decide_eq_true g10r
  have h12 := of_decide_eq_true h12
  refine sg_ g10 mv_ (sg_ g10 mv_ (jg_ g10 (vG [vB true, vB false, vI 4]) (x_build (by kernel_rfl)) (og_ g10 (O_buildSlice (cs := [vB true, vB false, vI 4]) Tryz.underlying33 Ty.sz38 Ty.ze38 (by decide) (by decide) (by kernel_rfl) fun b13 => ?_))))
  refine c0g g10 (cl_ Ty.ca16) (fun w hS => f16_ok _ e2 e3 [[83, 49], [83, 50]] _ 2 [(StepEnd.mk true false 4)] _ 1 w (RO.of_row hS 3 rfl) (RO.of_blk hS 2 (off := 0) (m := 2) rfl rfl) (RO.of_blk hS 0 (off := 0) (m := 3) rfl rfl) hy_ (by rw [R40.aw_len]; decide) hy_) ?_
  exact cr_ (fun _ h => h.keep [false, true, true, true, true] rfl)
 refine s_ mv_ ?_
 refine and_ 2 (!false) (fun g14 => ?_) ?_
 ·have g14r := g14
  have ⟨g14r, h15⟩ := band_true g14r
  have ⟨g14r, h16⟩ := band_true g14r
  have ⟨g14r, h17⟩ := band_true g14r
  have g14r := of_decide_eq_true g14r
  have h17 := of_decide_eq_true h17
  refine sg_ g14 mv_ (sg_ g14 (x_not rfl) ?_)
  exact cr_
 refine s_ mv_ ?_
 refine and_ 1 (true) (fun g18 => ?_) ?_
 ·have g18r := g18
  have ⟨g18r, h19⟩ := band_true g18r
  have ⟨g18r, h20⟩ := band_true g18r
  have ⟨g18r, h21⟩ := band_true g18r
  have ⟨g18r, h22⟩ := band_true g18r
  have g18r := of_decide_eq_true g18r
  have h22 := of_decide_eq_true h22
  have h19 : (false) = false := bnot_true h19
  refine sg_ g18 mv_ ?_
  exact cr_
 refine s_ mv_ ?_
 refine and_ 4 (decide ((((R40.formatV ((R40.parseV [[83, 49], [114, 99], [60, 61], [52], [97, 110, 100], [110, 111, 116], [83, 50], [102, 97, 105, 108, 101, 100]]).out)).length : Nat) : Int) = 8)) (fun g23 => ?_) ?_
 ·have g23r := g23
  have ⟨g23r, h24⟩ := band_true g23r
  have ⟨g23r, h25⟩ := band_true g23r
  have ⟨g23r, h26⟩ := band_true g23r
  have ⟨g23r, h27⟩ := band_true g23r
  have ⟨g23r, h28⟩ := band_true g23r
  have g23r := of_decide_eq_true g23r
  have h28 := of_decide_eq_true h28
  have h25 : (false) = false := bnot_true h25
  refine sg_ g23 mv_ ?_
  refine c1g g23 (cl_ Ty.ca12) (fun w hS => f12_ok _ e2 e3 w (RO.of_row hS 2 rfl) (hT.on hS (fun _ h => by cases h)) (by rw [R40.aw_len]; decide) (by exact R40.aw_ops)) ?_
  rintro _ _ ⟨e29, e30, rfl, rfl⟩
  have ha31 := R40.format_len ((R40.parseV [[83, 49], [114, 99], [60, 61], [52], [97, 110, 100], [110, 111, 116], [83, 50], [102, 97, 105, 108, 101, 100]]).out)
  try simp only [List.length_cons, List.length_nil, Nat.zero_add, Nat.reduceAdd, Nat.reduceMul] at ha31
  refine sg_ g23 (lnS Tryz.underlying22) (sg_ g23 (x_eql_i rfl rfl) ?_)
  exact cr_ (fun _ h => h.keep [false, true, true, true, true] rfl)
 refine s_ av_ (z_ (n_ (rt_ ?_)))
 exact p1 Tryz.results6 rfl ⟨(eB (R40.aw_all)), rfl⟩
end Go.Proofs.YtngjdmhpljmkpaaGreatDoor

namespace Go.Proofs.YtngjdmhpljmkpaaGreatDoor
open Go.GV
set_option linter.unusedVariables false
set_option linter.unusedSimpArgs false
theorem c40n0_ {p : Prop} (h : p := by first | exact R40.same_len (by omega) | exact R40.same_bad (i := k) (by assumption) | exact R40.same_end i1_1 (fun i hi => i1_2 i (by omega))) : p := h
set_option maxRecDepth 20000 in
theorem f10_ok (a : List Test) (aA : Option Addr) (aC : Nat) (b : List Test) (bA : Option Addr) (bC : Nat) (w : World) (aR : RO [] w aA (a.flatMap Test.enc)) (bR : RO [] w bA (b.flatMap Test.enc)) (q0 : a.length ≤ 9223372036854775807) (q1 : b.length ≤ 9223372036854775807) : Calls Tryz.prog 10 #[vL aA a.length aC, vL bA b.length bC] w (Gives [] w fun v L => v = vB (decide (a = b)) ∧ L = []) := by
 refine calls_J [] 26 Tryz.func10 rfl Tryz.ntmps10 [(0, _), (1, _)] rfl rfl (Give.nil w) ?_
 refine q_ (g_ (s_ av_ (z_ (n_ (q_ (q_ (g_ (s_ mv_ (s_ (lnS Tryz.underlying23) (s_ mv_ (s_ (lnS Tryz.underlying23) (s_ (x_neq_i rfl rfl) (z_ (n_ ?_))))))))))))))
 refine ifd (fun h1w h1 => ?_) (fun h1w h1 => ?_)
 ·refine q_ (g_ (s_ av_ (z_ (n_ (rt_ (nr_ ?_))))))
  exact p1 Tryz.results10 rfl ⟨(eB c40n0_), rfl⟩
 ·refine sk_ (n_ (q_ (q_ (g_ (s_ av_ (z_ (n_ (k_ ?_))))))))
  refine J_loop (X := Nat) (fun (k : Nat) => (k ≤ a.length) ∧ (a.length = b.length) ∧ (∀ i, i < k → a.getD i default = b.getD i default)) (fun (k : Nat) => [(0, vL aA a.length aC), (1, vL bA b.length bC), (5, vI ((k : Nat) : Int))]) (fun (k : Nat) => []) (fun (k : Nat) => a.length - k) (0 : Nat) ?_ ⟨rfl, rfl, rfl, trivial⟩ (fun _ h => h) ?_
  ·try dsimp only
   refine ⟨?_, ?_, ?_⟩
   ·first | rfl | omega | (simp_all; done) | (simp_all; omega)
   ·omega
   ·intro i hi; omega
  intro k hI1
  obtain ⟨i1_0, i1_1, i1_2⟩ := hI1
  try dsimp only at i1_0
  try dsimp only at i1_1
  try dsimp only at i1_2
  try dsimp only
  refine q_ (q_ (g_ (s_ mv_ (s_ mv_ (s_ (lnS Tryz.underlying23) (s_ (x_lss_i rfl rfl) (z_ (n_ ?_))))))))
  refine ifd (fun h2w h2 => ?_) (fun h2w h2 => ?_)
  ·refine sk_ (n_ (q_ (k_ (q_ ?_))))
   refine drB [] 9 Ty.mixed ?_
   refine jp_ 0 rfl mv_ (jp_ 1 rfl mv_ (jq_ 2 rfl (ixF Test.enc_len (cells_ro aR) Tryz.underlying23 Ty.sz40) (jq_ 3 rfl (ldFN Test.enc_len (cells_ro aR) Ty.ag40 Ty.sz40) (jp_ 4 rfl mv_ (jp_ 5 rfl mv_ (jq_ 6 rfl (ixF Test.enc_len (cells_ro bR) Tryz.underlying23 Ty.sz40) (jq_ 7 rfl (ldFN Test.enc_len (cells_ro bR) Ty.ag40 Ty.sz40) (jp_ 8 rfl (x_neq_agg rfl rfl Ty.eg40 (Ty.eq40 9998 (a.getD k default) (b.getD k default))) ?_))))))))
   refine JA_done (by kernel_rfl) gm_ ?_
   refine n_ ?_
   refine if_ (fun h3 => ?_) (fun h3 => ?_)
   ·have h3 : (decide (((a.getD k default) : Test) = (b.getD k default))) = false := bnot_true h3
    have h3 := of_decide_eq_false h3
    refine q_ (g_ (s_ av_ (z_ (n_ (rt_ (kq_ (nr_ (rr_ (kq_ (nr_ ?_))))))))))
    exact p1 Tryz.results10 rfl ⟨(eB c40n0_), rfl⟩
   ·have h3 : (decide (((a.getD k default) : Test) = (b.getD k default))) = true := bnot_false h3
    have h3 := of_decide_eq_true h3
    refine sk_ (kx_ (n_ (g_ (s_ mv_ (s_ (x_add_n (a := k) (b := 1) rfl rfl (by omega)) (s_ av_ (z_ ?_)))))))
    refine JX_round (k + 1 : Nat) ?_ ?_ ⟨rfl, rfl, rfl, trivial⟩ (fun _ h => h)
    ·try dsimp only
     refine ⟨?_, ?_, ?_⟩
     ·first | rfl | omega | (simp_all; done) | (simp_all; omega)
     ·first | rfl | omega | (simp_all; done) | (simp_all; omega)
     ·intro i hi
      by_cases hik : i = k
      ·subst hik; simp_all
      ·exact i1_2 i (by omega)
    ·try dsimp only
     first | omega | (simp; omega) | (simp_all; omega)
  ·refine J_exit (ne_ (re_ (kh_ (n_ (q_ ?_)))))
   refine g_ (s_ av_ (z_ (n_ (rt_ ?_))))
   exact p1 Tryz.results10 rfl ⟨(eB c40n0_), rfl⟩
end Go.Proofs.YtngjdmhpljmkpaaGreatDoor

namespace Go.Proofs.YtngjdmhpljmkpaaGreatDoor
open Go.GV
set_option linter.unusedVariables false
set_option linter.unusedSimpArgs false
set_option maxRecDepth 20000 in
theorem f3_ok (ws : List Bytes) (wsA : Option Addr) (wsC : Nat) (ts : List Test) (tsA : Option Addr) (tsC : Nat) (w : World) (wsR : RO [] w wsA (ws.map vS)) (tsR : RO [] w tsA (ts.flatMap Test.enc)) (hT : Tab [] w) (q0 : ws.length ≤ wsC ∧ ws.length ≤ 9223372036854775807) (q1 : ts.length ≤ 9223372036854775807) (q2 : ∀ k, (ws.getD k []).length ≤ 140737488355328) : Calls Tryz.prog 3 #[vL wsA ws.length wsC, vL tsA ts.length tsC] w (Gives [] w fun v L => v = vB true ∧ L = []) := by
 refine calls_J [] 58 Tryz.func3 rfl Tryz.ntmps3 [(0, _), (1, _)] rfl rfl (Give.nil w) ?_
 refine q_ (g_ (s_ av_ (z_ (n_ (q_ (q_ (g_ (c0 (cl_ Ty.ca6) (fun w hS => f6_ok w (hT.on hS (fun _ h => by cases h))) (jr_ (vB false) (z_ (n_ (iff_ (sk_ (n_ (q_ (q_ (g_ (s_ mv_ (s_ (lnS Tryz.underlying22) (s_ (x_gtr_i rfl rfl) ?_))))))))))))))))))))
 refine s_ mv_ ?_
 rcases Bool.eq_false_or_eq_true (decide ((60 : Int) < ((ws.length : Nat) : Int))) with g1 | g1
 ·have g1r := g1
  have g1r := of_decide_eq_true g1r
  refine sh_ g1 (sh_ g1 (sh_ g1 (sh_ g1 (sh_ g1 (sh_ g1 (sh_ g1 (sh_ g1 (js_ (vB true) (x_pick_t rfl g1 rfl) (z_ (n_ (ift (q_ (g_ ?_)))))))))))))
  refine s_ av_ (z_ (n_ (rt_ (nr_ ?_))))
  exact p1 Tryz.results3 rfl ⟨rfl, rfl⟩
 ·have g1r := g1
  have g1r := of_decide_eq_false g1r
  refine sg_ g1 mv_ (sg_ g1 mv_ (sg_ g1 mv_ (sg_ g1 (lnS Tryz.underlying22) (sg_ g1 (x_min_n (a := 8) (b := ws.length) rfl rfl) (sg_ g1 (x_head rfl Tryz.underlying22 Ty.sz9 rfl lt_) ?_)))))
  obtain ⟨A2, hA3⟩ : ∃ x : Option Addr, x = wsA := ⟨_, rfl⟩
  have hro4 := RO.headM wsR (min 8 ws.length)
  rw [← hA3] at hro4
  refine JO_weaken (E' := [(0, vL wsA ws.length wsC), (1, vL tsA ts.length tsC), (4, vB false), (11, vB true), (12, vB false), (13, vL wsA ws.length wsC), (14, vI ((ws.length : Nat) : Int)), (15, vB (decide ((60 : Int) < ((ws.length : Nat) : Int)))), (16, vB (decide ((60 : Int) < ((ws.length : Nat) : Int)))), (17, vL tsA ts.length tsC), (18, vL wsA ws.length wsC), (19, vL wsA ws.length wsC), (20, vI ((ws.length : Nat) : Int)), (21, vI ((min 8 ws.length : Nat) : Int)), (22, vL A2 ((ws.take (min 8 ws.length)).length) wsC)]) (L' := []) ⟨rfl, rfl, rfl, rfl, rfl, rfl, rfl, rfl, rfl, rfl, rfl, rfl, rfl, rfl, (by rw [hA3, ← take_len lt_]; rfl), trivial⟩ (fun _ h => h) ?_
  refine c0g g1 (cl_ Ty.ca7) (fun w hS => f7_ok ts tsA tsC _ A2 wsC ([] : List StepEnd) none 0 w (rno tsR hS) (rno hro4 hS) RO.nil hy_ hy_ hy_) (sg_ g1 (x_not rfl) (js_ (vB (!(R40.fewV ts (ws.take (min 8 ws.length)) ([] : List StepEnd).length))) (x_pick_f rfl g1 rfl) (z_ (n_ ?_))))
  refine if_ (fun h5 => ?_) (fun h5 => ?_)
  ·have h5w := h5
   have h5 : (R40.fewV ts (ws.take (min 8 ws.length)) ([] : List StepEnd).length) = false := bnot_true h5
   refine q_ (g_ (s_ av_ (z_ (n_ (rt_ (nr_ ?_))))))
   exact p1 Tryz.results3 rfl ⟨rfl, rfl⟩
  ·have h5w := h5
   have h5 : (R40.fewV ts (ws.take (min 8 ws.length)) ([] : List StepEnd).length) = true := bnot_false h5
   have hi6 := R40.few_yes h5
   have hfe := R40.few_yes (by assumption)
   refine sk_ (n_ (q_ (g_ (s_ mv_ ?_))))
   refine c1 (cl_ Ty.ca8) (fun w hS => f8_ok ws wsA wsC w (rno wsR hS) (hT.on hS (fun _ h => by cases h)) hy_ hy_) ?_
   rintro _ _ ⟨e7, e8, rfl, rfl⟩
   have ha9 := R40.parse_len ws
   refine s_ mv_ (s_ (ex_ 0) (s_ (ex_ 1) (s_ (ex_ 2) (s_ av_ (s_ av_ (s_ av_ (z_ (xk_ [0, 1, 4, 5, 6, 7] ?_))))))))
   refine n_ (q_ (g_ (s_ mv_ ?_)))
   refine c1 (cl_ Ty.ca9) (fun w hS => f9_ok ws wsA wsC w (rno wsR hS) hy_ hy_) ?_
   rintro _ _ ⟨e10, e11, rfl, rfl⟩
   have ha12 := R40.parse_len ws
   refine s_ mv_ (s_ (ex_ 0) (s_ (ex_ 1) (s_ (ex_ 2) (s_ av_ (s_ av_ (s_ av_ (z_ (n_ (q_ (g_ (s_ mv_ (s_ mv_ ?_))))))))))))
   refine c0 (cl_ Ty.ca10) (fun w hS => f10_ok _ e7 e8 _ e10 e11 w (RO.of_row hS 1 rfl) (RO.of_row hS 0 rfl) hy_ hy_) (s_ mv_ ?_)
   refine and_ 3 (decide ((R40.parseV ws).at_ = (R40.parseV ws).at_)) (fun g13 => ?_) ?_
   ·have g13r := g13
    have g13r := of_decide_eq_true g13r
    refine sg_ g13 mv_ (sg_ g13 mv_ (sg_ g13 (x_eql_i rfl rfl) ?_))
    exact cr_
   refine s_ mv_ ?_
   refine and_ 3 (decide ((R40.parseV ws).e = (R40.parseV ws).e)) (fun g14 => ?_) ?_
   ·have g14r := g14
    have ⟨g14r, h15⟩ := band_true g14r
    have g14r := of_decide_eq_true g14r
    have h15 := of_decide_eq_true h15
    refine sg_ g14 mv_ (sg_ g14 mv_ (sg_ g14 (x_eql_i rfl rfl) ?_))
    exact cr_
   refine s_ mv_ ?_
   rcases Bool.eq_false_or_eq_true (((decide (((R40.parseV ws).out) = ((R40.parseV ws).out))) && (decide ((R40.parseV ws).at_ = (R40.parseV ws).at_))) && (decide ((R40.parseV ws).e = (R40.parseV ws).e))) with g16 | g16
   ·have g16r := g16
    have ⟨g16r, h17⟩ := band_true g16r
    have ⟨g16r, h18⟩ := band_true g16r
    have g16r := of_decide_eq_true g16r
    have h18 := of_decide_eq_true h18
    have h17 := of_decide_eq_true h17
    refine sg_ g16 mv_ ?_
    refine c1g g16 (cl_ Ty.ca12) (fun w hS => f12_ok ts tsA tsC w (rno tsR hS) (hT.on hS (fun _ h => by cases h)) hy_ (by exact R40.few_sh hfe)) ?_
    rintro _ _ ⟨e19, e20, rfl, rfl⟩
    have ha21 := R40.format_len ts
    refine sg_ g16 mv_ ?_
    refine JO_callB [] [] [Ent.row (.slice e19 (R40.formatV ts).length e20) 9 1 (R40.formatV ts).length ((R40.formatV ts).map vS), Ent.row (.slice e10 ((R40.parseV ws).out).length e11) 40 4 ((R40.parseV ws).out).length (((R40.parseV ws).out).flatMap Test.enc), Ent.row (.slice e7 ((R40.parseV ws).out).length e8) 40 4 ((R40.parseV ws).out).length (((R40.parseV ws).out).flatMap Test.enc)] rfl ⟨_, rfl, g16⟩ (fun _ => x_call Ty.ca13 rfl) (fun _ h => h) (fun _ h => by cases h) (fun w hS => f13_ok ts tsA tsC w (tsR.on hS (fun _ h => by cases h)) hy_ (by exact R40.few_sh hfe)) ?_
    rintro wc _ _ wbhB23 ⟨rr, rrA, rrC, rfl, rfl, rrR, hf22⟩ hc0 hB23
    have wsR := wsR.again hB23
    have tsR := tsR.again hB23
    have hro4 := hro4.again hB23
    have hT := hT.again hB23
    have rrR := rrR.mono (lown_range hc0)
    refine c0g g16 (cl_ Ty.ca11) (fun w hS => f11_ok _ e19 e20 rr rrA rrC w (RO.of_row hS 0 rfl) (rno rrR hS) hy_ hy_) (js_ (vB (decide ((R40.formatV ts) = rr))) (x_pick_t rfl g16 rfl) (s_ av_ (z_ (xk_ [4] ?_))))
    refine n_ (rt_ ?_)
    refine JX_retsC [_] _ Tryz.results3 (fun w h => ⟨rfl, trivial⟩) rfl _ (fun _ h => h.keep [false, false, false] rfl) (fun _ _ h => (hB23.back _ _ h)) ⟨?_, ?_⟩
    ·have e_x0 : (decide ((R40.formatV ts) = rr) : Bool) = true := by first | rfl | exact (R40.words_dead (by assumption)).elim | exact decide_eq_true (hf22).symm
     exact congrArg (fun (x0 : Bool) => vB x0) e_x0
    ·rfl
   ·have g16r := g16
    simp only [Bool.and_eq_true, Bool.or_eq_true, Bool.and_eq_false_iff, Bool.or_eq_false_iff, Bool.not_eq_true', Bool.not_eq_false', decide_eq_true_eq, decide_eq_false_iff_not] at g16r
    refine sh_ g16 (sh_ g16 (sh_ g16 (sh_ g16 (sh_ g16 (js_ (vB false) (x_pick_f rfl g16 rfl) (s_ av_ (z_ (xk_ [4] ?_))))))))
    refine n_ (rt_ ?_)
    exact p1 Tryz.results3 rfl ⟨(eB (by first | rfl | exact (R40.words_dead (by assumption)).elim | exact decide_eq_true (no_such_condition).symm)), rfl⟩
end Go.Proofs.YtngjdmhpljmkpaaGreatDoor



namespace Go.GV
open Go.RowKit
theorem reach_slice {H : Type} {enc : TypeId × Value → H} {P : Program} {w : World} {base : Nat} {spare : Nat → Bool} {held : Bool} {ts : List TypeId} {ds : List (DataW H)} (hs : (DataW.weightsEach P ts ds).all (· ≤ reachBytes) = true) {j : Nat} {t e : TypeId} {d : DataW H} {pl : List MemPlace} (hj : ts[j]? = some t) (hd : ds[j]? = some d)
    (ht : P.underlying t = some (.slice e)) {b : Nat} (hb : P.bytesOf e = b) {A : Option Addr} {n c : Nat} (hx : ∃ m, DataW.trod enc P w base spare held m t [Value.slice A n c] = some (d, pl)) : n * b ≤ 140737488351232 := by
  obtain ⟨m, hx⟩ := hx
  rcases Deep.open_slice ht hx with ⟨h, _⟩ | ⟨a, len, cap, q, k, D, Pl, h, _, _, _, _, hx, _⟩
  · simp at h; obtain ⟨_, rfl, _⟩ := h; simp
  · simp at h; obtain ⟨rfl, rfl, rfl⟩ := h
    simp only [Prod.mk.injEq] at hx
    obtain ⟨rfl, _⟩ := hx
    have := sized_slice hs hj hd ht
    rw [hb] at this
    simp only [List.length_map, List.length_range, reachBytes] at this
    have h2 : n * b ≤ (n + (q - n)) * b := Nat.mul_le_mul_right _ (by omega)
    omega
end Go.GV

namespace Go.GV
open Go.RowKit
theorem weights_all_mem {H : Type} {P : Program} {e : TypeId} {d : DataW H} {n : Nat} (hn : n ∈ d.weights P e) : ∀ {l : List (DataW H)}, d ∈ l → n ∈ DataW.weightsAll P e l
  | x :: r, h => by
    simp only [DataW.weightsAll, List.mem_append]
    rcases List.mem_cons.1 h with rfl | h
    · exact .inl hn
    · exact .inr (weights_all_mem hn h)
theorem strs_reach {H : Type} {enc : TypeId × Value → H} {P : Program} {w : World} {ts : List TypeId} {ds : List (DataW H)} (hs : (DataW.weightsEach P ts ds).all (· ≤ reachBytes) = true) {j : Nat} {t e : TypeId} {d : DataW H} {p : List MemPlace} (hj : ts[j]? = some t) (hd : ds[j]? = some d)
    (ht : P.underlying t = some (.slice e)) (he : P.underlying e = some .string) (hc : P.cellsOf e = 1) {A : Option Addr} {c : Nat} {xs : List Bytes} (hx : ∃ m, DataW.trod enc P w 0 (fun _ => true) true m t [.slice A xs.length c] = some (d, p)) (hR : RO [] w A (xs.map vS)) (i : Nat) : (xs.getD i []).length ≤ 140737488355328 := by
  obtain ⟨fuel, h⟩ := hx
  rcases Nat.lt_or_ge i xs.length with hi | hi
  · rcases Deep.open_slice ht h with ⟨h0, _⟩ | ⟨a, len, cap, m, n, D, Pl, h0, _, hlc, _, hm, hx, hall⟩
    · injection h0 with h0 _; injection h0 with _ h1 _; omega
    · injection h0 with h0 _; injection h0 with h1 h2 _
      injection hx with hx _
      have hm2 : m = cap := by rw [hm]; rfl
      obtain ⟨cs', g1, g2⟩ := hall i (by omega)
      obtain ⟨s, rfl, g3, _⟩ := DataW.trod_string he g2
      rw [hc] at g1
      obtain ⟨_, _, hall2⟩ := World.cells?_some g1
      have g4 := hall2 0 (by decide)
      obtain ⟨a', ha, _, _, g5⟩ := hR i (vS xs[i]) (by rw [List.getElem?_map, List.getElem?_eq_getElem hi]; rfl)
      rw [h1] at ha; injection ha with ha
      rw [← ha] at g5
      rw [Deep.add_add, Nat.mul_one, Nat.add_zero, g5] at g4
      have g6 : s = ⟨xs[i].toArray⟩ := by
        have := Option.some.inj g4
        injection this with this; exact this.symm
      injection g3 with g3 _
      have hl : xs[i].length ∈ (D i).weights P e := by
        rw [g3, g6]; simp [DataW.weights]
      have hp : xs[i].length ∈ DataW.weightsAll P e ((List.range len).map D) := weights_all_mem hl (List.mem_map_of_mem (List.mem_range.2 (by omega)))
      have hq : xs[i].length ∈ d.weights P t := by
        rw [hx, DataW.weights, ht]
        exact List.mem_cons_of_mem _ (List.mem_append.2 (.inl hp))
      have hz := List.all_eq_true.1 hs _ (DataW.weights_mem_each hj hd _ hq)
      have hz2 : xs[i].length ≤ reachBytes := of_decide_eq_true hz
      rw [List.getD_eq_getElem?_getD, List.getElem?_eq_getElem hi]
      show xs[i].length ≤ _
      exact Nat.le_trans hz2 (by decide)
  · rw [List.getD_eq_getElem?_getD, List.getElem?_eq_none hi]; exact Nat.zero_le _
end Go.GV
namespace Go
theorem returnsInHanded_of_change_and_shaped_sized {H : Type} {enc : TypeId × Value → H} {a : Assume} {C : Checked} {os : Os} {f : FuncId} {fn : Func} {s : ChangeSpec} {conds : List PathCond} {apart fresh handsOn again : Bool} {X : World → Array Value → Prop}
    (hX : ∀ (w w' : World) (args : Array Value), w.heap = w'.heap → X w args → X w' args)
    (own : ownKnob C.prog.godebug = none) (started : os.Started) (noInit : C.prog.inits.idxOf? f = none) (hfn : C.prog.funcs[f]? = some fn)
    (witness : ∃ (w : World) (tape : Tape) (i : Input), w.os = os ∧ (w.forCall tape i).Shaped C.prog ∧ i.vars = [] ∧ Input.okWide C.prog (w.forCall tape i) .any w.heap.size f i ∧
      ((s.pre enc C.prog fn conds apart (w.forCall tape i).memory i.args ∧ X (w.forCall tape i).memory i.args) ∧ sizedMet enc C.prog fn (OpenSpec.ofChange s) apart (w.forCall tape i).memory i.args) ∧ a.holds C.prog (lone (Frame.enter C.prog f i.args .normal) [] (w.forCall tape i)))
    (contract : ∀ (W : World) (base : Nat) (args : Array Value) (ds gs : List (DataW H)) (before : List MemPlace),
      (∀ (j : Nat) t v, fn.params[j]? = some t → args[j]? = some v → Value.okWide C.prog W .any base t v) →
      DataW.Whole enc C.prog fn.params.toList s.vars apart W args.toList ds gs before →
      X W args → W.ShapedOpen C.prog →
      (DataW.weightsEach C.prog (fn.params.toList ++ s.plain.varTypes C.prog) (ds ++ gs)).all (· ≤ reachBytes) = true →
      Calls C.prog f args W fun e W' => ∃ v, e = .returned v ∧ s.post enc C.prog fn apart fresh handsOn again W args v W') :
    ReturnsInHanded a C os f .any (fun w args => (s.pre enc C.prog fn conds apart w args ∧ X w args) ∧ sizedMet enc C.prog fn (OpenSpec.ofChange s) apart w args) (s.post enc C.prog fn apart fresh handsOn again) := by
  refine returnsInHanded_of_calls own started noInit witness ?_
  intro w tape i _ hsh _ hok hpre _
  obtain ⟨_, _, _, fn', hfn', _, _, _, _, hval⟩ := hok
  obtain rfl : fn' = fn := Option.some.inj (hfn'.symm.trans hfn)
  obtain ⟨⟨⟨ds, gs, before, hw, _⟩, hx⟩, hz⟩ := hpre
  have hw' := DataW.Whole.of_heap (w' := w.forCall tape i) (by rfl) hw
  refine (contract (w.forCall tape i) w.heap.size i.args ds gs before hval hw' (hX _ _ _ (by rfl) hx) hsh (hz.weights hw)).mono fun e W' ⟨v, he, hp⟩ => ?_
  subst he
  exact ChangeSpec.post_blind hp
end Go
