/- contracts C40g -/
import Derived.Test.YtngjdmhpljmkpaaGreatDoorConditionWords10
import Derived.Test.YtngjdmhpljmkpaaGreatDoorConditionWords8
set_option linter.unusedVariables false
set_option linter.unusedSimpArgs false
namespace Go.Proofs.YtngjdmhpljmkpaaGreatDoor
open Go.GV
set_option linter.unusedVariables false
set_option linter.unusedSimpArgs false
theorem c40g0_ {p : Prop} (h : p := by first | exact .inl (by assumption) | exact .inr (.inl (by assumption)) | exact .inr (.inr (.inl (by assumption))) | exact .inr (.inr (.inr (by assumption)))) : p := h
theorem c40g1_ {p : Prop} (h : p := by (intro he; first | (simp only [hE] at he; cases he; done) | (simp only [hE]; done) | (simp only [hE]; assumption) | (simp only [hE, List.append_assoc, List.nil_append, List.append_nil, *]; done))) : p := h
theorem c40g2_ {p : Prop} (h : p := by (rw [hE]; dsimp only; (try simp only [List.length_append, List.length_cons, List.length_nil, List.length_replicate]); omega)) : p := h
theorem c40g3_ {p : Prop} (h : p := by (intro he; first | (simp only [hE] at he; cases he; done) | (rw [hE]; dsimp only; omega))) : p := h
theorem c40g4_ {p : Prop} (h : p := by first | (intro _; exact ⟨rfl, by omega⟩) | (intro he; rw [← R40.isA_f (ws := ws) (i := i) (w := w9) (by omega) (by assumption)] at he; cases he) | (intro he; rw [← R40.isA_g (ws := ws) (i := i) (w := w9) (by omega)] at he; cases he)) : p := h
theorem c40g5_ {p : Prop} (h : p := by first | (intro _; rfl) | (intro he; rw [← R40.isA_t (ws := ws) (i := i) (w := w9) (by omega) (by assumption)] at he; cases he)) : p := h
theorem c40g6_ {p : Prop} (h : p := by first | exact i1_1.skip (by omega) | exact i1_1.hit (by omega) (by omega) (by assumption) | exact i1_1.miss (by omega) (by assumption)) : p := h
set_option maxRecDepth 20000 in
theorem f53_ok (w : World) : Calls Tryz.prog 53 #[] w (Gives [] w fun v L => ∃ b2 : Nat, v = vL (some ⟨b2, 0, none⟩) 6 6 ∧ L = [Ent.blk b2 9 [vS [60], vS [60, 61], vS [61], vS [33, 61], vS [62, 61], vS [62]]]) := by
 refine calls_J [] 2 Tryz.func53 rfl Tryz.ntmps53 [] rfl rfl (Give.nil w) ?_
 refine q_ (g_ (s_ av_ (z_ (n_ (q_ (g_ (o_ (O_buildSlice (cs := [vS [60], vS [60, 61], vS [61], vS [33, 61], vS [62, 61], vS [62]]) Tryz.underlying22 Ty.sz9 Ty.ze9 (by decide) (by decide) (by kernel_rfl) fun b1 => ?_))))))))
 refine s_ av_ (z_ (n_ (rt_ ?_)))
 refine JX_rets [_] _ Tryz.results53 (fun w h => ⟨rfl, trivial⟩) rfl _ (fun _ h => h) ⟨b1, ?_, ?_⟩
 ·rfl
 ·rfl
set_option maxRecDepth 20000 in
theorem f65_ok (p : Nat) (ws : List Bytes) (wsA : Option Addr) (wsC : Nat) (i : Nat) (w9 : Bytes) (oA : Option Addr) (oN : Nat) (oC : Nat) (w : World) (wsR : RO [p] w wsA (ws.map vS)) (q0 : ws.length ≤ 1000000) (q1 : i ≤ ws.length) (hg : Give [p] w [Ent.blk p 43 [vL wsA ws.length wsC, vI ((i : Nat) : Int), vL oA oN oC]]) : Calls Tryz.prog 65 #[pB p 0, vS w9] w (Gives [p] w fun v L => ∃ j : Nat, v = vB (R40.isA ws i w9) ∧ L = [Ent.blk p 43 [vL wsA ws.length wsC, vI ((j : Nat) : Int), vL oA oN oC]] ∧ (R40.isA ws i w9 = true → i + 1 = j ∧ i < ws.length) ∧ (R40.isA ws i w9 = false → i = j)) := by
 refine calls_J [p] 36 Tryz.func65 rfl Tryz.ntmps65 [(0, _), (1, _)] rfl rfl hg ?_
 refine q_ (g_ (s_ av_ (z_ (n_ (q_ (q_ ?_))))))
 refine drB [] 24 Ty.mixed ?_
 refine jp_ 0 rfl mv_ (jp_ 1 rfl (x_nilCheck rfl) (jp_ 2 rfl (fA 1 Ty.fi43_1) (jq_ 3 rfl (ld_ 0 Ty.sc3) (jp_ 4 rfl mv_ (jp_ 5 rfl (x_nilCheck rfl) (jp_ 6 rfl (fA 0 Ty.fi43_0) (jq_ 7 rfl (ld_ 0 Ty.sc22) (jp_ 8 rfl (lnS Tryz.underlying22) (jp_ 9 rfl (x_lss_i rfl rfl) ?_)))))))))
 refine jp_ 10 rfl mv_ ?_
 refine jb_ 15 (fun h1 => ?_) (fun h1 => ?_)
 ·have h1 := of_decide_eq_true h1
  refine jp_ 11 rfl mv_ (jp_ 12 rfl (x_nilCheck rfl) (jp_ 13 rfl (fA 0 Ty.fi43_0) (jq_ 14 rfl (ld_ 0 Ty.sc22) (jp_ 15 rfl mv_ (jp_ 16 rfl (x_nilCheck rfl) (jp_ 17 rfl (fA 1 Ty.fi43_1) (jq_ 18 rfl (ld_ 0 Ty.sc3) (jq_ 19 rfl (ixM (cells_ro wsR) Tryz.underlying22 Ty.sz9) (jq_ 20 rfl (ldM vS [] (cells_ro wsR) Ty.sc9) ?_ (hw := ⟨_, rfl, rfl⟩)) (hw := ⟨_, rfl, rfl⟩)) (hw := ⟨_, rfl, rfl⟩)) (hw := ⟨_, rfl, rfl⟩)) (hw := ⟨_, rfl, rfl⟩)) (hw := ⟨_, rfl, rfl⟩)) (hw := ⟨_, rfl, rfl⟩)) (hw := ⟨_, rfl, rfl⟩)) (hw := ⟨_, rfl, rfl⟩)) (hw := ⟨_, rfl, rfl⟩)
  refine jp_ 21 rfl mv_ (jp_ 22 rfl (x_eql_s rfl rfl) ?_ (hw := ⟨_, rfl, rfl⟩)) (hw := ⟨_, rfl, rfl⟩)
  refine jt_ 23 (vB (decide ((ws.getD i []) = w9))) rfl (fun _ _ => rfl) ?_
  refine JA_done (by kernel_rfl) gm_ ?_
  refine n_ ?_
  refine ifd (fun h2w h2 => ?_) (fun h2w h2 => ?_)
  ·refine q_ (g_ (s_ mv_ (s_ (x_nilCheck rfl) (s_ (fA 1 Ty.fi43_1) (r_ (ld_ 0 Ty.sc3) (s_ (x_add_n (a := i) (b := 1) rfl rfl (by omega)) (s_ (x_nilCheck rfl) (s_ (fA 1 Ty.fi43_1) (o_ (st1 0 Ty.sz3 ?_))))))))))
   refine z_ (xk_ [4] ?_)
   refine n_ (q_ (g_ (s_ av_ (z_ (n_ (rt_ (nr_ ?_)))))))
   refine JX_rets [_] _ Tryz.results65 (fun w h => ⟨rfl, trivial⟩) rfl _ (fun _ h => h) ⟨i + 1, ?_, ?_, ?_, ?_⟩
   ·have e_x0 : (true : Bool) = (R40.isA ws i w9) := by first | rfl | exact R40.isA_t (by omega) (by assumption) | exact R40.isA_f (by omega) (by assumption) | exact R40.isA_g (by omega)
    exact congrArg (fun (x0 : Bool) => vB x0) e_x0
   ·have e_y0 : (i + 1 : Nat) = (i + 1) := by
     first | rfl | exact R40.isA_t (by omega) (by assumption) | exact R40.isA_f (by omega) (by assumption) | exact R40.isA_g (by omega)
    have e_all := (congrArg (fun (y0 : Nat) => [Ent.blk p 43 [vL wsA ws.length wsC, vI ((y0 : Nat) : Int), vL oA oN oC]]) e_y0)
    exact e_all
   ·exact c40g4_
   ·exact c40g5_
  ·refine sk_ (n_ (q_ (g_ (s_ av_ (z_ (xk_ [4] ?_))))))
   refine n_ (rt_ ?_)
   refine JX_rets [_] _ Tryz.results65 (fun w h => ⟨rfl, trivial⟩) rfl _ (fun _ h => h) ⟨i, ?_, ?_, ?_, ?_⟩
   ·have e_x0 : (false : Bool) = (R40.isA ws i w9) := by first | rfl | exact R40.isA_t (by omega) (by assumption) | exact R40.isA_f (by omega) (by assumption) | exact R40.isA_g (by omega)
    exact congrArg (fun (x0 : Bool) => vB x0) e_x0
   ·rfl
   ·exact c40g4_
   ·exact c40g5_
 ·have h1 := of_decide_eq_false h1
  refine js2_ 11 rfl (js2_ 12 rfl (js2_ 13 rfl (js2_ 14 rfl (js2_ 15 rfl (js2_ 16 rfl (js2_ 17 rfl (js2_ 18 rfl (js2_ 19 rfl (js2_ 20 rfl ?_)))))))))
  refine js2_ 21 rfl (js2_ 22 rfl ?_)
  refine jt_ 23 (vB false) rfl (fun _ _ => rfl) ?_
  refine JA_done (by kernel_rfl) gm_ ?_
  refine n_ (iff_ (sk_ (n_ (q_ (g_ (s_ av_ (z_ (xk_ [4] ?_))))))))
  refine n_ (rt_ ?_)
  refine JX_rets [_] _ Tryz.results65 (fun w h => ⟨rfl, trivial⟩) rfl _ (fun _ h => h) ⟨i, ?_, ?_, ?_, ?_⟩
  ·have e_x0 : (false : Bool) = (R40.isA ws i w9) := by first | rfl | exact R40.isA_t (by omega) (by assumption) | exact R40.isA_f (by omega) (by assumption) | exact R40.isA_g (by omega)
   exact congrArg (fun (x0 : Bool) => vB x0) e_x0
  ·rfl
  ·exact c40g4_
  ·exact c40g5_
set_option maxRecDepth 20000 in
theorem f89_ok (p : Nat) (ws : List Bytes) (wsA : Option Addr) (wsC : Nat) (i : Nat) (o : List Test) (oA : Option Addr) (oC : Nat) (oN : Nat) (w : World) (wsR : RO (Lown [Ent.blk p 43 [vL wsA ws.length wsC, vI ((i : Nat) : Int), vL oA oN oC], Ent.row (.slice oA oN oC) 40 4 oN (o.flatMap Test.enc)]) w wsA (ws.map vS)) (hT : Tab (Lown [Ent.blk p 43 [vL wsA ws.length wsC, vI ((i : Nat) : Int), vL oA oN oC], Ent.row (.slice oA oN oC) 40 4 oN (o.flatMap Test.enc)]) w) (oQ : oN = o.length) (q0 : ws.length ≤ 1000000) (q1 : i ≤ ws.length) (q2 : o.length ≤ i) (q3 : ∀ k, (ws.getD k []).length ≤ 140737488355328) (hg : Give (Lown [Ent.blk p 43 [vL wsA ws.length wsC, vI ((i : Nat) : Int), vL oA oN oC], Ent.row (.slice oA oN oC) 40 4 oN (o.flatMap Test.enc)]) w [Ent.blk p 43 [vL wsA ws.length wsC, vI ((i : Nat) : Int), vL oA oN oC], Ent.row (.slice oA oN oC) 40 4 oN (o.flatMap Test.enc)]) : Calls Tryz.prog 89 #[pB p 0] w (Gives (Lown [Ent.blk p 43 [vL wsA ws.length wsC, vI ((i : Nat) : Int), vL oA oN oC], Ent.row (.slice oA oN oC) 40 4 oN (o.flatMap Test.enc)]) w fun v L => ∃ y : List Test, ∃ yA : Option Addr, ∃ yC : Nat, v = vB ((R40.basicV ws i).ok) ∧ L = [Ent.blk p 43 [vL wsA ws.length wsC, vI (((R40.basicV ws i).pos : Nat) : Int), vL yA y.length yC], Ent.row (.slice yA y.length yC) 40 4 y.length (y.flatMap Test.enc)] ∧ ((R40.basicV ws i).ok = true → y = o ++ (R40.basicV ws i).out) ∧ (y.length + i ≤ o.length + (R40.basicV ws i).pos) ∧ ((R40.basicV ws i).pos ≤ ws.length) ∧ ((R40.basicV ws i).ok = true → i < (R40.basicV ws i).pos) ∧ (i ≤ (R40.basicV ws i).pos)) := by
 subst oQ
 have hwi := q3 i
 have hwi3 := q3 (i + 3)
 refine calls_J (Lown [Ent.blk p 43 [vL wsA ws.length wsC, vI ((i : Nat) : Int), vL oA o.length oC], Ent.row (.slice oA o.length oC) 40 4 o.length (o.flatMap Test.enc)]) 154 Tryz.func89 rfl Tryz.ntmps89 [(0, _)] rfl rfl hg ?_
 refine q_ (g_ (s_ av_ (z_ (n_ (q_ (q_ ?_))))))
 refine drB [] 24 Ty.mixed ?_
 refine jp_ 0 rfl mv_ (jp_ 1 rfl (x_nilCheck rfl) (jp_ 2 rfl (fA 1 Ty.fi43_1) (jq_ 3 rfl (ld_ 0 Ty.sc3) (jp_ 4 rfl mv_ (jp_ 5 rfl (x_nilCheck rfl) (jp_ 6 rfl (fA 0 Ty.fi43_0) (jq_ 7 rfl (ld_ 0 Ty.sc22) (jp_ 8 rfl (lnS Tryz.underlying22) (jp_ 9 rfl (x_geq_i rfl rfl) ?_)))))))))
 refine jp_ 10 rfl mv_ ?_
 refine jb_ 18 (fun h1 => ?_) (fun h1 => ?_)
 ·have h1 := of_decide_eq_true h1
  refine js2_ 11 rfl (js2_ 12 rfl (js2_ 13 rfl (js2_ 14 rfl (js2_ 15 rfl (js2_ 16 rfl (js2_ 17 rfl (js2_ 18 rfl (js2_ 19 rfl (js2_ 20 rfl ?_)))))))))
  refine js2_ 21 rfl (js2_ 22 rfl ?_)
  refine jt_ 23 (vB true) rfl (fun _ _ => rfl) ?_
  refine JA_done (by kernel_rfl) gm_ ?_
  refine n_ (ift (q_ (g_ (s_ av_ (z_ (xk_ [0, 2] ?_))))))
  refine n_ (rt_ (nr_ ?_))
  first
   | have hE := R40.basic_0 (ws := ws) (i := i) (by omega)
   | have hE := R40.basic_1 (ws := ws) (i := i) (by assumption)
   | have hE := R40.basic_f (ws := ws) (i := i) (by omega) (by assumption) (by assumption)
   | have hE := R40.basic_r (ws := ws) (i := i) (by omega) (by assumption) (by assumption) (by assumption)
   | have hE := R40.basic_n (ws := ws) (i := i) (by omega) (by assumption) (by assumption) (by assumption) (by assumption)
   | have hE := R40.basic_op (ws := ws) (i := i) (by omega) (by assumption) (by assumption) (by assumption) (by assumption) i1_1 (by omega) (by omega)
   | have hE := R40.basic_e (ws := ws) (i := i) (by omega) (by assumption) (by assumption) (by assumption) (by assumption) i1_1 (by omega) (by omega)
   | have hE := R40.basic_x (ws := ws) (i := i) (by omega) (by assumption) (by assumption) (by assumption) (by assumption) i1_1 (by omega) (R40.numC_no (by assumption) c40g0_)
   | have hE := R40.basic_y (ws := ws) (i := i) (by omega) (by assumption) (by assumption) (by assumption) (by assumption) i1_1 (by omega) (by omega) (R40.numC_yes (by assumption) (by omega) (by omega))
  refine JX_rets [_] _ Tryz.results89 (fun w h => ⟨rfl, trivial⟩) rfl _ (fun _ h => h) ⟨o, oA, oC, ?_, ?_, ?_, ?_, ?_, ?_, ?_⟩
  ·have e_x0 : (false : Bool) = ((R40.basicV ws i).ok) := by first | rfl | (rw [hE]; done)
   exact congrArg (fun (x0 : Bool) => vB x0) e_x0
  ·have e_y0 : (i : Nat) = (R40.basicV ws i).pos := by
    first | rfl | (rw [hE]; done)
   have e_all := (congrArg (fun (y0 : Nat) => [Ent.blk p 43 [vL wsA ws.length wsC, vI ((y0 : Nat) : Int), vL oA o.length oC], Ent.row (.slice oA o.length oC) 40 4 o.length (o.flatMap Test.enc)]) e_y0)
   exact e_all
  ·exact c40g1_
  ·exact c40g2_
  ·(rw [hE]; dsimp only; omega)
  ·exact c40g3_
  ·(rw [hE]; dsimp only; omega)
 ·have h1 := of_decide_eq_false h1
  refine jp_ 11 rfl mv_ (jp_ 12 rfl (x_nilCheck rfl) (jp_ 13 rfl (fA 0 Ty.fi43_0) (jq_ 14 rfl (ld_ 0 Ty.sc22) (jp_ 15 rfl mv_ (jp_ 16 rfl (x_nilCheck rfl) (jp_ 17 rfl (fA 1 Ty.fi43_1) (jq_ 18 rfl (ld_ 0 Ty.sc3) (jq_ 19 rfl (ixM (cells_ro wsR) Tryz.underlying22 Ty.sz9) (jq_ 20 rfl (ldM vS [] (cells_ro wsR) Ty.sc9) ?_ (hw := ⟨_, rfl, rfl⟩)) (hw := ⟨_, rfl, rfl⟩)) (hw := ⟨_, rfl, rfl⟩)) (hw := ⟨_, rfl, rfl⟩)) (hw := ⟨_, rfl, rfl⟩)) (hw := ⟨_, rfl, rfl⟩)) (hw := ⟨_, rfl, rfl⟩)) (hw := ⟨_, rfl, rfl⟩)) (hw := ⟨_, rfl, rfl⟩)) (hw := ⟨_, rfl, rfl⟩)
  refine j1_ 21 (jc0_ rfl (cl_ Ty.ca26) (fun w hS => f26_ok _ w (hT.on hS (fun _ h => by cases h)) hy_) (jp_ 22 rfl (x_not rfl) ?_ (hw := ⟨_, rfl, rfl⟩)) (hw := ⟨_, rfl, rfl⟩)) gm_
  refine jt_ 23 (vB (!(R40.stepV (ws.getD i [])))) rfl (fun _ _ => rfl) ?_
  refine JA_done (by kernel_rfl) gm_ ?_
  refine n_ ?_
  refine if_ (fun h2 => ?_) (fun h2 => ?_)
  ·have h2w := h2
   have h2 : (R40.stepV (ws.getD i [])) = false := bnot_true h2
   refine q_ (g_ (s_ av_ (z_ (xk_ [0, 2] ?_))))
   refine n_ (rt_ (nr_ ?_))
   first
    | have hE := R40.basic_0 (ws := ws) (i := i) (by omega)
    | have hE := R40.basic_1 (ws := ws) (i := i) (by assumption)
    | have hE := R40.basic_f (ws := ws) (i := i) (by omega) (by assumption) (by assumption)
    | have hE := R40.basic_r (ws := ws) (i := i) (by omega) (by assumption) (by assumption) (by assumption)
    | have hE := R40.basic_n (ws := ws) (i := i) (by omega) (by assumption) (by assumption) (by assumption) (by assumption)
    | have hE := R40.basic_op (ws := ws) (i := i) (by omega) (by assumption) (by assumption) (by assumption) (by assumption) i1_1 (by omega) (by omega)
    | have hE := R40.basic_e (ws := ws) (i := i) (by omega) (by assumption) (by assumption) (by assumption) (by assumption) i1_1 (by omega) (by omega)
    | have hE := R40.basic_x (ws := ws) (i := i) (by omega) (by assumption) (by assumption) (by assumption) (by assumption) i1_1 (by omega) (R40.numC_no (by assumption) c40g0_)
    | have hE := R40.basic_y (ws := ws) (i := i) (by omega) (by assumption) (by assumption) (by assumption) (by assumption) i1_1 (by omega) (by omega) (R40.numC_yes (by assumption) (by omega) (by omega))
   refine JX_rets [_] _ Tryz.results89 (fun w h => ⟨rfl, trivial⟩) rfl _ (fun _ h => h) ⟨o, oA, oC, ?_, ?_, ?_, ?_, ?_, ?_, ?_⟩
   ·have e_x0 : (false : Bool) = ((R40.basicV ws i).ok) := by first | rfl | (rw [hE]; done)
    exact congrArg (fun (x0 : Bool) => vB x0) e_x0
   ·have e_y0 : (i : Nat) = (R40.basicV ws i).pos := by
     first | rfl | (rw [hE]; done)
    have e_all := (congrArg (fun (y0 : Nat) => [Ent.blk p 43 [vL wsA ws.length wsC, vI ((y0 : Nat) : Int), vL oA o.length oC], Ent.row (.slice oA o.length oC) 40 4 o.length (o.flatMap Test.enc)]) e_y0)
    exact e_all
   ·exact c40g1_
   ·exact c40g2_
   ·(rw [hE]; dsimp only; omega)
   ·exact c40g3_
   ·(rw [hE]; dsimp only; omega)
  ·have h2w := h2
   have h2 : (R40.stepV (ws.getD i [])) = true := bnot_false h2
   refine sk_ (n_ (q_ ?_))
   refine drB [12] 13 Ty.mixed ?_
   refine jp_ 0 rfl mv_ (jp_ 1 rfl (x_nilCheck rfl) (jp_ 2 rfl (fA 0 Ty.fi43_0) (jq_ 3 rfl (ld_ 0 Ty.sc22) (jp_ 4 rfl mv_ (jp_ 5 rfl (x_nilCheck rfl) (jp_ 6 rfl (fA 1 Ty.fi43_1) (jq_ 7 rfl (ld_ 0 Ty.sc3) (jq_ 8 rfl (ixM (cells_ro wsR) Tryz.underlying22 Ty.sz9) (jq_ 9 rfl (ldM vS [] (cells_ro wsR) Ty.sc9) ?_)))))))))
   refine jt_ 10 (vG [vI 0, vS (ws.getD i []), vI 0, vI 0]) rfl (fun _ _ => x_build (by kernel_rfl)) ?_
   refine j1_ 11 (jio_ rfl (al_ Ty.ze40 fun b4 => ?_)) gm_
   refine j1_ 12 (jio_ rfl (stG 0 Ty.sz40 ?_)) (fun _ h => ⟨h.keep [false, true, true] rfl, fun _ => h.keep [false, true, true] rfl⟩)
   refine JA_done (by kernel_rfl) (gl_ rfl (fun _ h => h.keep [false, true, true] rfl)) ?_
   refine n_ (q_ (g_ (s_ mv_ (s_ (x_nilCheck rfl) (s_ (fA 1 Ty.fi43_1) (r_ (ld_ 1 Ty.sc3) (s_ (x_add_n (a := i) (b := 1) rfl rfl (by omega)) (s_ (x_nilCheck rfl) (s_ (fA 1 Ty.fi43_1) (o_ (st1 1 Ty.sz3 ?_)))))))))))
   refine z_ (xk_ [0, 2, 3] ?_)
   refine n_ (q_ (k_ (q_ (g_ (s_ mv_ ?_)))))
   refine JO_call [p] [Ent.blk p 43 [vL wsA ws.length wsC, vI (((i + 1) : Nat) : Int), vL oA o.length oC]] [Ent.blk b4 40 [vI 0, vS (ws.getD i []), vI 0, vI 0], Ent.row (.slice oA o.length oC) 40 4 o.length (o.flatMap Test.enc)] rfl trivial (fun _ => x_call Ty.ca65 rfl) (fun _ h => (((h.front 2 _ rfl).front 1 _ rfl).front 2 _ rfl).keep [true, true, true] rfl) (own_mem rfl) (fun w hS => f65_ok p ws wsA wsC (i + 1) [102, 97, 105, 108, 101, 100] oA o.length oC w (wsR.on hS (own_mem rfl)) hy_ hy_ (hS.give (own_in rfl))) ?_
   rintro _ _ ⟨j5, rfl, rfl, hf6, hf7⟩
   try simp only [List.length_cons, List.length_nil, Nat.zero_add, Nat.reduceAdd] at hf6
   refine s_ av_ (z_ (n_ ?_))
   refine if_ (fun h8 => ?_) (fun h8 => ?_)
   ·have h8w := h8
    obtain ⟨rfl, _⟩ := hf6 (by assumption)
    refine g_ (s_ (fA 0 Ty.fi40_0) (o_ (st1 1 Ty.sz3 ?_)))
    refine z_ (kx_ (n_ (q_ ?_)))
    refine drU [] [7, 10] 11 Ty.mixed ?_
    refine jp_ 0 rfl mv_ (jp_ 1 rfl mv_ (jp_ 2 rfl (x_nilCheck rfl) (jp_ 3 rfl (fA 2 Ty.fi43_2) ?_)))
    refine JA_early 4 (vL oA o.length oC) rfl (by kernel_rfl) (by kernel_rfl) (by kernel_rfl) rfl (by kernel_rfl) (fun _ _ _ h => h) rfl trivial (x_load 0 rfl rfl Ty.sc23 rfl) ?_
    refine JA_earlyT 5 (vG [vI 1, vS (ws.getD i []), vI 0, vI 0]) rfl (by kernel_rfl) (by kernel_rfl) (by kernel_rfl) rfl (by kernel_rfl) (fun _ _ _ h => h) rfl trivial (x_loadN 1 [vI 1, vS (ws.getD i []), vI 0, vI 0] rfl rfl Ty.ag40 Ty.sz40 rfl) ?_
    refine j1_ 6 (jio_ rfl (O_buildSlice (cs := [vI 1, vS (ws.getD i []), vI 0, vI 0]) Tryz.underlying23 Ty.sz40 Ty.ze40 (by decide) (by decide) (by kernel_rfl) fun b10 => ?_)) (fun _ h => ⟨h.keep [false, false, false] rfl, fun _ => h⟩)
    refine j1_ 7 (jio_ rfl (O_append_f 3 Test.enc 4 o [(Test.mk 1 (ws.getD i []) 0 0)] Tryz.underlying23 Ty.sz40 Ty.by40 Ty.ze40 rfl (by decide) rfl rfl rfl rfl Test.enc_len Test.enc_one (cells_blk 0 (off := 0) (m := 4) rfl rfl) lt_ lt_ fun A13 c14 => ?_)) (fun _ h => ⟨h.keep [false, false, false, false] rfl, fun _ => h.keep [false, true, true, true] rfl⟩)
    refine jp_ 8 rfl (x_nilCheck rfl) (jp_ 9 rfl (fA 2 Ty.fi43_2) (j1_ 10 (jio_ rfl (st1 1 Ty.sz23 ?_)) (gl_ rfl (fun _ h => h.keep [false, false, false, false] rfl))))
    refine JA_done (by kernel_rfl) (gl_ rfl (fun _ h => h.keep [false, false, false, false] rfl)) ?_
    refine n_ (q_ (g_ (s_ av_ (z_ (n_ (rt_ ?_))))))
    first
     | have hE := R40.basic_0 (ws := ws) (i := i) (by omega)
     | have hE := R40.basic_1 (ws := ws) (i := i) (by assumption)
     | have hE := R40.basic_f (ws := ws) (i := i) (by omega) (by assumption) (by assumption)
     | have hE := R40.basic_r (ws := ws) (i := i) (by omega) (by assumption) (by assumption) (by assumption)
     | have hE := R40.basic_n (ws := ws) (i := i) (by omega) (by assumption) (by assumption) (by assumption) (by assumption)
     | have hE := R40.basic_op (ws := ws) (i := i) (by omega) (by assumption) (by assumption) (by assumption) (by assumption) i1_1 (by omega) (by omega)
     | have hE := R40.basic_e (ws := ws) (i := i) (by omega) (by assumption) (by assumption) (by assumption) (by assumption) i1_1 (by omega) (by omega)
     | have hE := R40.basic_x (ws := ws) (i := i) (by omega) (by assumption) (by assumption) (by assumption) (by assumption) i1_1 (by omega) (R40.numC_no (by assumption) c40g0_)
     | have hE := R40.basic_y (ws := ws) (i := i) (by omega) (by assumption) (by assumption) (by assumption) (by assumption) i1_1 (by omega) (by omega) (R40.numC_yes (by assumption) (by omega) (by omega))
    refine JX_rets [_] _ Tryz.results89 (fun w h => ⟨rfl, trivial⟩) rfl _ (fun _ h => h.keep [false, true, false, true] rfl) ⟨o ++ [(Test.mk 1 (ws.getD i []) 0 0)], A13, c14, ?_, ?_, ?_, ?_, ?_, ?_, ?_⟩
    ·have e_x0 : (true : Bool) = ((R40.basicV ws i).ok) := by first | rfl | (rw [hE]; done)
     exact congrArg (fun (x0 : Bool) => vB x0) e_x0
    ·have e_y0 : (o ++ [(Test.mk 1 (ws.getD i []) 0 0)] : List Test) = (o ++ [(Test.mk 1 (ws.getD i []) 0 0)]) := by
      first | rfl | (rw [hE]; done)
     have e_y1 : ((i + 1 + 1) : Nat) = (R40.basicV ws i).pos := by
      first | rfl | (rw [hE]; done)
     have e_all := (congr (congrArg (fun (y0 : List Test) (y1 : Nat) => [Ent.blk p 43 [vL wsA ws.length wsC, vI ((y1 : Nat) : Int), vL A13 ((o ++ [(Test.mk 1 (ws.getD i []) 0 0)]).length) c14], Ent.row (.slice A13 y0.length c14) 40 4 y0.length (y0.flatMap Test.enc)]) e_y0) e_y1)
     exact e_all
    ·exact c40g1_
    ·exact c40g2_
    ·(rw [hE]; dsimp only; omega)
    ·exact c40g3_
    ·(rw [hE]; dsimp only; omega)
   ·have h8w := h8
    obtain rfl := hf7 (by assumption)
    refine q_ (g_ (s_ mv_ ?_))
    refine JO_call [p] [Ent.blk p 43 [vL wsA ws.length wsC, vI (((i + 1) : Nat) : Int), vL oA o.length oC]] [Ent.blk b4 40 [vI 0, vS (ws.getD i []), vI 0, vI 0], Ent.row (.slice oA o.length oC) 40 4 o.length (o.flatMap Test.enc)] rfl trivial (fun _ => x_call Ty.ca65 rfl) (fun _ h => h) (own_mem rfl) (fun w hS => f65_ok p ws wsA wsC (i + 1) [114, 97, 110] oA o.length oC w (wsR.on hS (own_mem rfl)) hy_ hy_ (hS.give (own_in rfl))) ?_
    rintro _ _ ⟨j15, rfl, rfl, hf16, hf17⟩
    try simp only [List.length_cons, List.length_nil, Nat.zero_add, Nat.reduceAdd] at hf16
    refine s_ av_ (z_ (n_ ?_))
    refine if_ (fun h18 => ?_) (fun h18 => ?_)
    ·have h18w := h18
     obtain ⟨rfl, _⟩ := hf16 (by assumption)
     refine g_ (s_ (fA 0 Ty.fi40_0) (o_ (st1 1 Ty.sz3 ?_)))
     refine z_ (kx_ (n_ (q_ ?_)))
     refine drU [] [7, 10] 11 Ty.mixed ?_
     refine jp_ 0 rfl mv_ (jp_ 1 rfl mv_ (jp_ 2 rfl (x_nilCheck rfl) (jp_ 3 rfl (fA 2 Ty.fi43_2) ?_)))
     refine JA_early 4 (vL oA o.length oC) rfl (by kernel_rfl) (by kernel_rfl) (by kernel_rfl) rfl (by kernel_rfl) (fun _ _ _ h => h) rfl trivial (x_load 0 rfl rfl Ty.sc23 rfl) ?_
     refine JA_earlyT 5 (vG [vI 2, vS (ws.getD i []), vI 0, vI 0]) rfl (by kernel_rfl) (by kernel_rfl) (by kernel_rfl) rfl (by kernel_rfl) (fun _ _ _ h => h) rfl trivial (x_loadN 1 [vI 2, vS (ws.getD i []), vI 0, vI 0] rfl rfl Ty.ag40 Ty.sz40 rfl) ?_
     refine j1_ 6 (jio_ rfl (O_buildSlice (cs := [vI 2, vS (ws.getD i []), vI 0, vI 0]) Tryz.underlying23 Ty.sz40 Ty.ze40 (by decide) (by decide) (by kernel_rfl) fun b20 => ?_)) (fun _ h => ⟨h.keep [false, false, false] rfl, fun _ => h⟩)
     refine j1_ 7 (jio_ rfl (O_append_f 3 Test.enc 4 o [(Test.mk 2 (ws.getD i []) 0 0)] Tryz.underlying23 Ty.sz40 Ty.by40 Ty.ze40 rfl (by decide) rfl rfl rfl rfl Test.enc_len Test.enc_one (cells_blk 0 (off := 0) (m := 4) rfl rfl) lt_ lt_ fun A23 c24 => ?_)) (fun _ h => ⟨h.keep [false, false, false, false] rfl, fun _ => h.keep [false, true, true, true] rfl⟩)
     refine jp_ 8 rfl (x_nilCheck rfl) (jp_ 9 rfl (fA 2 Ty.fi43_2) (j1_ 10 (jio_ rfl (st1 1 Ty.sz23 ?_)) (gl_ rfl (fun _ h => h.keep [false, false, false, false] rfl))))
     refine JA_done (by kernel_rfl) (gl_ rfl (fun _ h => h.keep [false, false, false, false] rfl)) ?_
     refine n_ (q_ (g_ (s_ av_ (z_ (n_ (rt_ ?_))))))
     first
      | have hE := R40.basic_0 (ws := ws) (i := i) (by omega)
      | have hE := R40.basic_1 (ws := ws) (i := i) (by assumption)
      | have hE := R40.basic_f (ws := ws) (i := i) (by omega) (by assumption) (by assumption)
      | have hE := R40.basic_r (ws := ws) (i := i) (by omega) (by assumption) (by assumption) (by assumption)
      | have hE := R40.basic_n (ws := ws) (i := i) (by omega) (by assumption) (by assumption) (by assumption) (by assumption)
      | have hE := R40.basic_op (ws := ws) (i := i) (by omega) (by assumption) (by assumption) (by assumption) (by assumption) i1_1 (by omega) (by omega)
      | have hE := R40.basic_e (ws := ws) (i := i) (by omega) (by assumption) (by assumption) (by assumption) (by assumption) i1_1 (by omega) (by omega)
      | have hE := R40.basic_x (ws := ws) (i := i) (by omega) (by assumption) (by assumption) (by assumption) (by assumption) i1_1 (by omega) (R40.numC_no (by assumption) c40g0_)
      | have hE := R40.basic_y (ws := ws) (i := i) (by omega) (by assumption) (by assumption) (by assumption) (by assumption) i1_1 (by omega) (by omega) (R40.numC_yes (by assumption) (by omega) (by omega))
     refine JX_rets [_] _ Tryz.results89 (fun w h => ⟨rfl, trivial⟩) rfl _ (fun _ h => h.keep [false, true, false, true] rfl) ⟨o ++ [(Test.mk 2 (ws.getD i []) 0 0)], A23, c24, ?_, ?_, ?_, ?_, ?_, ?_, ?_⟩
     ·have e_x0 : (true : Bool) = ((R40.basicV ws i).ok) := by first | rfl | (rw [hE]; done)
      exact congrArg (fun (x0 : Bool) => vB x0) e_x0
     ·have e_y0 : (o ++ [(Test.mk 2 (ws.getD i []) 0 0)] : List Test) = (o ++ [(Test.mk 2 (ws.getD i []) 0 0)]) := by
       first | rfl | (rw [hE]; done)
      have e_y1 : (((i + 1) + 1) : Nat) = (R40.basicV ws i).pos := by
       first | rfl | (rw [hE]; done)
      have e_all := (congr (congrArg (fun (y0 : List Test) (y1 : Nat) => [Ent.blk p 43 [vL wsA ws.length wsC, vI ((y1 : Nat) : Int), vL A23 ((o ++ [(Test.mk 2 (ws.getD i []) 0 0)]).length) c24], Ent.row (.slice A23 y0.length c24) 40 4 y0.length (y0.flatMap Test.enc)]) e_y0) e_y1)
      exact e_all
     ·exact c40g1_
     ·exact c40g2_
     ·(rw [hE]; dsimp only; omega)
     ·exact c40g3_
     ·(rw [hE]; dsimp only; omega)
    ·have h18w := h18
     obtain rfl := hf17 (by assumption)
     refine q_ (g_ (s_ mv_ ?_))
     refine JO_call [p] [Ent.blk p 43 [vL wsA ws.length wsC, vI (((i + 1) : Nat) : Int), vL oA o.length oC]] [Ent.blk b4 40 [vI 0, vS (ws.getD i []), vI 0, vI 0], Ent.row (.slice oA o.length oC) 40 4 o.length (o.flatMap Test.enc)] rfl trivial (fun _ => x_call Ty.ca65 rfl) (fun _ h => h) (own_mem rfl) (fun w hS => f65_ok p ws wsA wsC (i + 1) [114, 99] oA o.length oC w (wsR.on hS (own_mem rfl)) hy_ hy_ (hS.give (own_in rfl))) ?_
     rintro _ _ ⟨j25, rfl, rfl, hf26, hf27⟩
     try simp only [List.length_cons, List.length_nil, Nat.zero_add, Nat.reduceAdd] at hf26
     refine s_ av_ (z_ (n_ ?_))
     refine if_ (fun h28 => ?_) (fun h28 => ?_)
     ·have h28w := h28
      obtain ⟨rfl, _⟩ := hf26 (by assumption)
      refine q_ (g_ (s_ (fA 0 Ty.fi40_0) (o_ (st1 1 Ty.sz3 ?_))))
      refine s_ (fA 2 Ty.fi40_2) (o_ (st1 1 Ty.sz3 ?_))
      refine z_ (n_ (q_ (q_ (g_ ?_))))
      refine c1 (cl_ Ty.ca53) (fun w hS => f53_ok w) ?_
      rintro _ _ ⟨e29, rfl, rfl⟩
      refine s_ (lnS Tryz.underlying22) (s_ mv_ (z_ (n_ (k_ ?_))))
      refine J_loop (X := Nat × Int × Nat) (fun (⟨r, op, j⟩ : Nat × Int × Nat) => (r ≤ 6) ∧ (R40.RelJ ws (i + 2) r op j) ∧ (j ≤ ws.length)) (fun (⟨r, op, j⟩ : Nat × Int × Nat) => [(0, pB p 0), (2, vB false), (3, pB b4 0), (63, vL (some ⟨e29, 0, none⟩) 6 6), (64, vI 6), (65, vI ((r : Nat) : Int))]) (fun (⟨r, op, j⟩ : Nat × Int × Nat) => [Ent.blk e29 9 [vS [60], vS [60, 61], vS [61], vS [33, 61], vS [62, 61], vS [62]], Ent.blk p 43 [vL wsA ws.length wsC, vI ((j : Nat) : Int), vL oA o.length oC], Ent.blk b4 40 [vI 0, vS (ws.getD i []), vI op, vI 0], Ent.row (.slice oA o.length oC) 40 4 o.length (o.flatMap Test.enc)]) (fun (⟨r, op, j⟩ : Nat × Int × Nat) => 6 - r) ((0, (-1), ((i + 1) + 1)) : Nat × Int × Nat) ?_ ⟨rfl, rfl, rfl, rfl, rfl, rfl, trivial⟩ (fun _ h => h) ?_
      ·try dsimp only
       refine ⟨?_, ?_, ?_⟩
       ·omega
       ·exact R40.RelJ.start
       ·omega
      rintro ⟨r, op, j⟩ hI1
      obtain ⟨i1_0, i1_1, i1_2⟩ := hI1
      try dsimp only at i1_0
      try dsimp only at i1_1
      try dsimp only at i1_2
      have hbd := i1_1.bd
      have hwj := q3 j
      have hrl := R40.rels_len
      try dsimp only
      refine q_ (g_ (s_ (x_lss_i rfl rfl) (z_ (n_ (q_ ?_)))))
      refine ifd (fun h30w h30 => ?_) (fun h30w h30 => ?_)
      ·refine sk_ (n_ (q_ (k_ (q_ (g_ (s_ mv_ (s_ (x_indexAddr_sl (k := r) Tryz.underlying22 Ty.sz9 rfl rfl lt_ (add_0k1 _ _)) (r_ (x_load_arr 0 (xs := ([[60], [60, 61], [61], [33, 61], [62, 61], [62]] : List Bytes)) vS [] rfl rfl Ty.sc9 lt_) (s_ av_ (s_ av_ (z_ (n_ (q_ (g_ (s_ (fA 2 Ty.fi40_2) (r_ (ld_ 2 Ty.sc3) (s_ (x_lss_i rfl rfl) ?_)))))))))))))))))
       refine s_ mv_ ?_
       rcases Bool.eq_false_or_eq_true (decide (op < 0)) with g31 | g31
       ·have g31r := g31
        have g31r := of_decide_eq_true g31r
        refine sg_ g31 mv_ (sg_ g31 mv_ ?_)
        refine JO_call [p] [Ent.blk p 43 [vL wsA ws.length wsC, vI ((j : Nat) : Int), vL oA o.length oC]] [Ent.blk e29 9 [vS [60], vS [60, 61], vS [61], vS [33, 61], vS [62, 61], vS [62]], Ent.blk b4 40 [vI 0, vS (ws.getD i []), vI op, vI 0], Ent.row (.slice oA o.length oC) 40 4 o.length (o.flatMap Test.enc)] rfl ⟨_, rfl, g31⟩ (fun _ => x_call Ty.ca65 rfl) (fun _ h => ((((h.front 3 _ rfl).front 3 _ rfl).front 2 _ rfl).front 3 _ rfl).keep [true, true, true, true] rfl) (own_mem rfl) (fun w hS => f65_ok p ws wsA wsC j (([[60], [60, 61], [61], [33, 61], [62, 61], [62]] : List Bytes).getD r []) oA o.length oC w (wsR.on hS (own_mem rfl)) hy_ hy_ (hS.give (own_in rfl))) ?_
        rintro _ _ ⟨j32, rfl, rfl, hf33, hf34⟩
        try simp only [List.length_cons, List.length_nil, Nat.zero_add, Nat.reduceAdd] at hf33
        refine js_ (vB (R40.isA ws j (([[60], [60, 61], [61], [33, 61], [62, 61], [62]] : List Bytes).getD r []))) (x_pick_t rfl g31 rfl) (z_ (n_ ?_))
        refine if_ (fun h35 => ?_) (fun h35 => ?_)
        ·have h35w := h35
         obtain ⟨rfl, _⟩ := hf33 (by assumption)
         refine g_ (s_ mv_ (s_ (fA 2 Ty.fi40_2) (o_ (st1 2 Ty.sz3 ?_))))
         refine z_ (kx_ (n_ (g_ (s_ (x_add_n (a := r) (b := 1) rfl rfl (by omega)) (s_ mv_ (z_ ?_))))))
         refine JX_round ((r + 1, ((r : Nat) : Int), (j + 1)) : Nat × Int × Nat) ?_ ?_ ⟨rfl, rfl, rfl, rfl, rfl, rfl, trivial⟩ (fun _ h => ((((h.front 3 _ rfl).front 3 _ rfl).front 2 _ rfl).front 3 _ rfl).keep [true, true, true, true] rfl)
         ·try dsimp only
          refine ⟨?_, ?_, ?_⟩
          ·omega
          ·exact c40g6_
          ·omega
         ·try dsimp only
          first | omega | (simp; omega) | (simp_all; omega)
        ·have h35w := h35
         obtain rfl := hf34 (by assumption)
         refine sk_ (kx_ (n_ (g_ (s_ (x_add_n (a := r) (b := 1) rfl rfl (by omega)) (s_ mv_ (z_ ?_))))))
         refine JX_round ((r + 1, op, j) : Nat × Int × Nat) ?_ ?_ ⟨rfl, rfl, rfl, rfl, rfl, rfl, trivial⟩ (fun _ h => ((((h.front 3 _ rfl).front 3 _ rfl).front 2 _ rfl).front 3 _ rfl).keep [true, true, true, true] rfl)
         ·try dsimp only
          refine ⟨?_, ?_, ?_⟩
          ·omega
          ·exact c40g6_
          ·omega
         ·try dsimp only
          first | omega | (simp; omega) | (simp_all; omega)
       ·have g31r := g31
        have g31r := of_decide_eq_false g31r
        refine sh_ g31 (sh_ g31 (sh_ g31 (js_ (vB false) (x_pick_f rfl g31 rfl) (z_ (n_ (iff_ (sk_ (kx_ (n_ (g_ (s_ (x_add_n (a := r) (b := 1) rfl rfl (by omega)) (s_ mv_ (z_ ?_)))))))))))))
        refine JX_round ((r + 1, op, j) : Nat × Int × Nat) ?_ ?_ ⟨rfl, rfl, rfl, rfl, rfl, rfl, trivial⟩ (fun _ h => h)
        ·try dsimp only
         refine ⟨?_, ?_, ?_⟩
         ·omega
         ·exact c40g6_
         ·omega
        ·try dsimp only
         first | omega | (simp; omega) | (simp_all; omega)
      ·refine J_exit (ne_ (re_ (kh_ (n_ (q_ ?_)))))
       refine q_ ?_
       refine drB [] 15 Ty.mixed ?_
       refine jp_ 0 rfl (fA 2 Ty.fi40_2) (jq_ 1 rfl (ld_ 2 Ty.sc3) (jp_ 2 rfl (x_lss_i rfl rfl) (jp_ 3 rfl mv_ ?_)))
       refine jb_ 84 (fun h36 => ?_) (fun h36 => ?_)
       ·have h36 := of_decide_eq_true h36
        refine js2_ 4 rfl (js2_ 5 rfl (js2_ 6 rfl (js2_ 7 rfl (js2_ 8 rfl (js2_ 9 rfl (js2_ 10 rfl (js2_ 11 rfl (js2_ 12 rfl (js2_ 13 rfl ?_)))))))))
        refine jt_ 14 (vB true) rfl (fun _ _ => rfl) ?_
        refine JA_done (by kernel_rfl) gm_ ?_
        refine n_ (ift (q_ (g_ (s_ av_ (z_ (xk_ [0, 2, 3] ?_))))))
        refine n_ (rt_ (nr_ (kq_ (nr_ ?_))))
        first
         | have hE := R40.basic_0 (ws := ws) (i := i) (by omega)
         | have hE := R40.basic_1 (ws := ws) (i := i) (by assumption)
         | have hE := R40.basic_f (ws := ws) (i := i) (by omega) (by assumption) (by assumption)
         | have hE := R40.basic_r (ws := ws) (i := i) (by omega) (by assumption) (by assumption) (by assumption)
         | have hE := R40.basic_n (ws := ws) (i := i) (by omega) (by assumption) (by assumption) (by assumption) (by assumption)
         | have hE := R40.basic_op (ws := ws) (i := i) (by omega) (by assumption) (by assumption) (by assumption) (by assumption) i1_1 (by omega) (by omega)
         | have hE := R40.basic_e (ws := ws) (i := i) (by omega) (by assumption) (by assumption) (by assumption) (by assumption) i1_1 (by omega) (by omega)
         | have hE := R40.basic_x (ws := ws) (i := i) (by omega) (by assumption) (by assumption) (by assumption) (by assumption) i1_1 (by omega) (R40.numC_no (by assumption) c40g0_)
         | have hE := R40.basic_y (ws := ws) (i := i) (by omega) (by assumption) (by assumption) (by assumption) (by assumption) i1_1 (by omega) (by omega) (R40.numC_yes (by assumption) (by omega) (by omega))
        refine JX_rets [_] _ Tryz.results89 (fun w h => ⟨rfl, trivial⟩) rfl _ (fun _ h => h.keep [false, true, false, true] rfl) ⟨o, oA, oC, ?_, ?_, ?_, ?_, ?_, ?_, ?_⟩
        ·have e_x0 : (false : Bool) = ((R40.basicV ws i).ok) := by first | rfl | (rw [hE]; done)
         exact congrArg (fun (x0 : Bool) => vB x0) e_x0
        ·have e_y0 : (j : Nat) = (R40.basicV ws i).pos := by
          first | rfl | (rw [hE]; done)
         have e_all := (congrArg (fun (y0 : Nat) => [Ent.blk p 43 [vL wsA ws.length wsC, vI ((y0 : Nat) : Int), vL oA o.length oC], Ent.row (.slice oA o.length oC) 40 4 o.length (o.flatMap Test.enc)]) e_y0)
         exact e_all
        ·exact c40g1_
        ·exact c40g2_
        ·(rw [hE]; dsimp only; omega)
        ·exact c40g3_
        ·(rw [hE]; dsimp only; omega)
       ·have h36 := of_decide_eq_false h36
        refine jp_ 4 rfl mv_ (jp_ 5 rfl (x_nilCheck rfl) (jp_ 6 rfl (fA 1 Ty.fi43_1) (jq_ 7 rfl (ld_ 1 Ty.sc3) (jp_ 8 rfl mv_ (jp_ 9 rfl (x_nilCheck rfl) (jp_ 10 rfl (fA 0 Ty.fi43_0) (jq_ 11 rfl (ld_ 1 Ty.sc22) (jp_ 12 rfl (lnS Tryz.underlying22) (jp_ 13 rfl (x_geq_i rfl rfl) ?_ (hw := ⟨_, rfl, rfl⟩)) (hw := ⟨_, rfl, rfl⟩)) (hw := ⟨_, rfl, rfl⟩)) (hw := ⟨_, rfl, rfl⟩)) (hw := ⟨_, rfl, rfl⟩)) (hw := ⟨_, rfl, rfl⟩)) (hw := ⟨_, rfl, rfl⟩)) (hw := ⟨_, rfl, rfl⟩)) (hw := ⟨_, rfl, rfl⟩)) (hw := ⟨_, rfl, rfl⟩)
        refine jt_ 14 (vB (decide (((ws.length : Nat) : Int) ≤ ((j : Nat) : Int)))) rfl (fun _ _ => rfl) ?_
        refine JA_done (by kernel_rfl) gm_ ?_
        refine n_ ?_
        refine ifd (fun h37w h37 => ?_) (fun h37w h37 => ?_)
        ·refine q_ (g_ (s_ av_ (z_ (xk_ [0, 2, 3] ?_))))
         refine n_ (rt_ (nr_ (kq_ (nr_ ?_))))
         first
          | have hE := R40.basic_0 (ws := ws) (i := i) (by omega)
          | have hE := R40.basic_1 (ws := ws) (i := i) (by assumption)
          | have hE := R40.basic_f (ws := ws) (i := i) (by omega) (by assumption) (by assumption)
          | have hE := R40.basic_r (ws := ws) (i := i) (by omega) (by assumption) (by assumption) (by assumption)
          | have hE := R40.basic_n (ws := ws) (i := i) (by omega) (by assumption) (by assumption) (by assumption) (by assumption)
          | have hE := R40.basic_op (ws := ws) (i := i) (by omega) (by assumption) (by assumption) (by assumption) (by assumption) i1_1 (by omega) (by omega)
          | have hE := R40.basic_e (ws := ws) (i := i) (by omega) (by assumption) (by assumption) (by assumption) (by assumption) i1_1 (by omega) (by omega)
          | have hE := R40.basic_x (ws := ws) (i := i) (by omega) (by assumption) (by assumption) (by assumption) (by assumption) i1_1 (by omega) (R40.numC_no (by assumption) c40g0_)
          | have hE := R40.basic_y (ws := ws) (i := i) (by omega) (by assumption) (by assumption) (by assumption) (by assumption) i1_1 (by omega) (by omega) (R40.numC_yes (by assumption) (by omega) (by omega))
         refine JX_rets [_] _ Tryz.results89 (fun w h => ⟨rfl, trivial⟩) rfl _ (fun _ h => h.keep [false, true, false, true] rfl) ⟨o, oA, oC, ?_, ?_, ?_, ?_, ?_, ?_, ?_⟩
         ·have e_x0 : (false : Bool) = ((R40.basicV ws i).ok) := by first | rfl | (rw [hE]; done)
          exact congrArg (fun (x0 : Bool) => vB x0) e_x0
         ·have e_y0 : (j : Nat) = (R40.basicV ws i).pos := by
           first | rfl | (rw [hE]; done)
          have e_all := (congrArg (fun (y0 : Nat) => [Ent.blk p 43 [vL wsA ws.length wsC, vI ((y0 : Nat) : Int), vL oA o.length oC], Ent.row (.slice oA o.length oC) 40 4 o.length (o.flatMap Test.enc)]) e_y0)
          exact e_all
         ·exact c40g1_
         ·exact c40g2_
         ·(rw [hE]; dsimp only; omega)
         ·exact c40g3_
         ·(rw [hE]; dsimp only; omega)
        ·refine sk_ (n_ (q_ ?_))
         refine drB [] 16 Ty.mixed ?_
         refine jp_ 0 rfl mv_ (jp_ 1 rfl (x_nilCheck rfl) (jp_ 2 rfl (fA 0 Ty.fi43_0) (jq_ 3 rfl (ld_ 1 Ty.sc22) (jp_ 4 rfl mv_ (jp_ 5 rfl (x_nilCheck rfl) (jp_ 6 rfl (fA 1 Ty.fi43_1) (jq_ 7 rfl (ld_ 1 Ty.sc3) (jq_ 8 rfl (ixM (cells_ro wsR) Tryz.underlying22 Ty.sz9) (jq_ 9 rfl (ldM vS [] (cells_ro wsR) Ty.sc9) ?_)))))))))
         refine j1_ 10 ?_ gm_
         refine jc1_ rfl (cl_ Ty.ca101) (fun w hS => atoi_ok _ w (hT.on hS (fun _ h => by cases h)) hy_) ?_
         rintro _ _ ⟨n38, er39, N40, rfl, rfl, hf41⟩
         refine jp_ 11 rfl mv_ (jp_ 12 rfl (ex_ 0) (jp_ 13 rfl (ex_ 1) (jp_ 14 rfl av_ (jp_ 15 rfl av_ ?_))))
         refine JA_done (by kernel_rfl) gm_ ?_
         refine n_ (q_ (q_ ?_))
         refine drB [] 25 Ty.mixed ?_
         refine jp_ 0 rfl mv_ (jp_ 1 rfl (x_neq_err rfl Tryz.underlying129) (jp_ 2 rfl mv_ ?_))
         refine jb_ 112 (fun h42 => ?_) (fun h42 => ?_)
         ·have h42 : (er39) = false := bnot_true h42
          refine js2_ 3 rfl (js2_ 4 rfl ?_)
          refine jt_ 5 (vB true) rfl (fun _ _ => rfl) ?_
          refine jp_ 6 rfl mv_ (js2_ 7 rfl (js2_ 8 rfl ?_))
          refine jt_ 9 (vB true) rfl (fun _ _ => rfl) ?_
          refine jp_ 10 rfl mv_ (js2_ 11 rfl (js2_ 12 rfl (js2_ 13 rfl (js2_ 14 rfl (js2_ 15 rfl (js2_ 16 rfl (js2_ 17 rfl (js2_ 18 rfl (js2_ 19 rfl ?_)))))))))
          refine js2_ 20 rfl (js2_ 21 rfl (js2_ 22 rfl (js2_ 23 rfl ?_)))
          refine jt_ 24 (vB true) rfl (fun _ _ => rfl) ?_
          refine JA_done (by kernel_rfl) gm_ ?_
          refine n_ (ift (q_ (g_ (s_ av_ (z_ (xk_ [0, 2, 3, 6] ?_))))))
          refine n_ (rt_ (nr_ (kq_ (nr_ ?_))))
          first
           | have hE := R40.basic_0 (ws := ws) (i := i) (by omega)
           | have hE := R40.basic_1 (ws := ws) (i := i) (by assumption)
           | have hE := R40.basic_f (ws := ws) (i := i) (by omega) (by assumption) (by assumption)
           | have hE := R40.basic_r (ws := ws) (i := i) (by omega) (by assumption) (by assumption) (by assumption)
           | have hE := R40.basic_n (ws := ws) (i := i) (by omega) (by assumption) (by assumption) (by assumption) (by assumption)
           | have hE := R40.basic_op (ws := ws) (i := i) (by omega) (by assumption) (by assumption) (by assumption) (by assumption) i1_1 (by omega) (by omega)
           | have hE := R40.basic_e (ws := ws) (i := i) (by omega) (by assumption) (by assumption) (by assumption) (by assumption) i1_1 (by omega) (by omega)
           | have hE := R40.basic_x (ws := ws) (i := i) (by omega) (by assumption) (by assumption) (by assumption) (by assumption) i1_1 (by omega) (R40.numC_no (by assumption) c40g0_)
           | have hE := R40.basic_y (ws := ws) (i := i) (by omega) (by assumption) (by assumption) (by assumption) (by assumption) i1_1 (by omega) (by omega) (R40.numC_yes (by assumption) (by omega) (by omega))
          refine JX_rets [_] _ Tryz.results89 (fun w h => ⟨rfl, trivial⟩) rfl _ (fun _ h => h.keep [false, true, false, true] rfl) ⟨o, oA, oC, ?_, ?_, ?_, ?_, ?_, ?_, ?_⟩
          ·have e_x0 : (false : Bool) = ((R40.basicV ws i).ok) := by first | rfl | (rw [hE]; done)
           exact congrArg (fun (x0 : Bool) => vB x0) e_x0
          ·have e_y0 : (j : Nat) = (R40.basicV ws i).pos := by
            first | rfl | (rw [hE]; done)
           have e_all := (congrArg (fun (y0 : Nat) => [Ent.blk p 43 [vL wsA ws.length wsC, vI ((y0 : Nat) : Int), vL oA o.length oC], Ent.row (.slice oA o.length oC) 40 4 o.length (o.flatMap Test.enc)]) e_y0)
           exact e_all
          ·exact c40g1_
          ·exact c40g2_
          ·(rw [hE]; dsimp only; omega)
          ·exact c40g3_
          ·(rw [hE]; dsimp only; omega)
         ·have h42 : (er39) = true := bnot_false h42
          refine jp_ 3 rfl mv_ (jp_ 4 rfl (x_lss_i rfl rfl) ?_ (hw := ⟨_, rfl, rfl⟩)) (hw := ⟨_, rfl, rfl⟩)
          refine jt_ 5 (vB (decide (n38 < 0))) rfl (fun _ _ => rfl) ?_
          refine jp_ 6 rfl mv_ ?_
          refine jb_ 116 (fun h43 => ?_) (fun h43 => ?_)
          ·have h43 := of_decide_eq_true h43
           refine js2_ 7 rfl (js2_ 8 rfl ?_)
           refine jt_ 9 (vB true) rfl (fun _ _ => rfl) ?_
           refine jp_ 10 rfl mv_ (js2_ 11 rfl (js2_ 12 rfl (js2_ 13 rfl (js2_ 14 rfl (js2_ 15 rfl (js2_ 16 rfl (js2_ 17 rfl (js2_ 18 rfl (js2_ 19 rfl ?_)))))))))
           refine js2_ 20 rfl (js2_ 21 rfl (js2_ 22 rfl (js2_ 23 rfl ?_)))
           refine jt_ 24 (vB true) rfl (fun _ _ => rfl) ?_
           refine JA_done (by kernel_rfl) gm_ ?_
           refine n_ (ift (q_ (g_ (s_ av_ (z_ (xk_ [0, 2, 3, 6] ?_))))))
           refine n_ (rt_ (nr_ (kq_ (nr_ ?_))))
           first
            | have hE := R40.basic_0 (ws := ws) (i := i) (by omega)
            | have hE := R40.basic_1 (ws := ws) (i := i) (by assumption)
            | have hE := R40.basic_f (ws := ws) (i := i) (by omega) (by assumption) (by assumption)
            | have hE := R40.basic_r (ws := ws) (i := i) (by omega) (by assumption) (by assumption) (by assumption)
            | have hE := R40.basic_n (ws := ws) (i := i) (by omega) (by assumption) (by assumption) (by assumption) (by assumption)
            | have hE := R40.basic_op (ws := ws) (i := i) (by omega) (by assumption) (by assumption) (by assumption) (by assumption) i1_1 (by omega) (by omega)
            | have hE := R40.basic_e (ws := ws) (i := i) (by omega) (by assumption) (by assumption) (by assumption) (by assumption) i1_1 (by omega) (by omega)
            | have hE := R40.basic_x (ws := ws) (i := i) (by omega) (by assumption) (by assumption) (by assumption) (by assumption) i1_1 (by omega) (R40.numC_no (by assumption) c40g0_)
            | have hE := R40.basic_y (ws := ws) (i := i) (by omega) (by assumption) (by assumption) (by assumption) (by assumption) i1_1 (by omega) (by omega) (R40.numC_yes (by assumption) (by omega) (by omega))
           refine JX_rets [_] _ Tryz.results89 (fun w h => ⟨rfl, trivial⟩) rfl _ (fun _ h => h.keep [false, true, false, true] rfl) ⟨o, oA, oC, ?_, ?_, ?_, ?_, ?_, ?_, ?_⟩
           ·have e_x0 : (false : Bool) = ((R40.basicV ws i).ok) := by first | rfl | (rw [hE]; done)
            exact congrArg (fun (x0 : Bool) => vB x0) e_x0
           ·have e_y0 : (j : Nat) = (R40.basicV ws i).pos := by
             first | rfl | (rw [hE]; done)
            have e_all := (congrArg (fun (y0 : Nat) => [Ent.blk p 43 [vL wsA ws.length wsC, vI ((y0 : Nat) : Int), vL oA o.length oC], Ent.row (.slice oA o.length oC) 40 4 o.length (o.flatMap Test.enc)]) e_y0)
            exact e_all
           ·exact c40g1_
           ·exact c40g2_
           ·(rw [hE]; dsimp only; omega)
           ·exact c40g3_
           ·(rw [hE]; dsimp only; omega)
          ·have h43 := of_decide_eq_false h43
           refine jp_ 7 rfl mv_ (jp_ 8 rfl (x_gtr_i rfl rfl) ?_ (hw := ⟨_, rfl, rfl⟩)) (hw := ⟨_, rfl, rfl⟩)
           refine jt_ 9 (vB (decide ((4095 : Int) < n38))) rfl (fun _ _ => rfl) ?_
           refine jp_ 10 rfl mv_ ?_
           refine jb_ 120 (fun h44 => ?_) (fun h44 => ?_)
           ·have h44 := of_decide_eq_true h44
            refine js2_ 11 rfl (js2_ 12 rfl (js2_ 13 rfl (js2_ 14 rfl (js2_ 15 rfl (js2_ 16 rfl (js2_ 17 rfl (js2_ 18 rfl (js2_ 19 rfl (js2_ 20 rfl ?_)))))))))
            refine js2_ 21 rfl (js2_ 22 rfl (js2_ 23 rfl ?_))
            refine jt_ 24 (vB true) rfl (fun _ _ => rfl) ?_
            refine JA_done (by kernel_rfl) gm_ ?_
            refine n_ (ift (q_ (g_ (s_ av_ (z_ (xk_ [0, 2, 3, 6] ?_))))))
            refine n_ (rt_ (nr_ (kq_ (nr_ ?_))))
            first
             | have hE := R40.basic_0 (ws := ws) (i := i) (by omega)
             | have hE := R40.basic_1 (ws := ws) (i := i) (by assumption)
             | have hE := R40.basic_f (ws := ws) (i := i) (by omega) (by assumption) (by assumption)
             | have hE := R40.basic_r (ws := ws) (i := i) (by omega) (by assumption) (by assumption) (by assumption)
             | have hE := R40.basic_n (ws := ws) (i := i) (by omega) (by assumption) (by assumption) (by assumption) (by assumption)
             | have hE := R40.basic_op (ws := ws) (i := i) (by omega) (by assumption) (by assumption) (by assumption) (by assumption) i1_1 (by omega) (by omega)
             | have hE := R40.basic_e (ws := ws) (i := i) (by omega) (by assumption) (by assumption) (by assumption) (by assumption) i1_1 (by omega) (by omega)
             | have hE := R40.basic_x (ws := ws) (i := i) (by omega) (by assumption) (by assumption) (by assumption) (by assumption) i1_1 (by omega) (R40.numC_no (by assumption) c40g0_)
             | have hE := R40.basic_y (ws := ws) (i := i) (by omega) (by assumption) (by assumption) (by assumption) (by assumption) i1_1 (by omega) (by omega) (R40.numC_yes (by assumption) (by omega) (by omega))
            refine JX_rets [_] _ Tryz.results89 (fun w h => ⟨rfl, trivial⟩) rfl _ (fun _ h => h.keep [false, true, false, true] rfl) ⟨o, oA, oC, ?_, ?_, ?_, ?_, ?_, ?_, ?_⟩
            ·have e_x0 : (false : Bool) = ((R40.basicV ws i).ok) := by first | rfl | (rw [hE]; done)
             exact congrArg (fun (x0 : Bool) => vB x0) e_x0
            ·have e_y0 : (j : Nat) = (R40.basicV ws i).pos := by
              first | rfl | (rw [hE]; done)
             have e_all := (congrArg (fun (y0 : Nat) => [Ent.blk p 43 [vL wsA ws.length wsC, vI ((y0 : Nat) : Int), vL oA o.length oC], Ent.row (.slice oA o.length oC) 40 4 o.length (o.flatMap Test.enc)]) e_y0)
             exact e_all
            ·exact c40g1_
            ·exact c40g2_
            ·(rw [hE]; dsimp only; omega)
            ·exact c40g3_
            ·(rw [hE]; dsimp only; omega)
           ·have h44 := of_decide_eq_false h44
            refine jp_ 11 rfl mv_ (jp_ 13 rfl mv_ (jp_ 14 rfl (x_nilCheck rfl) (jp_ 15 rfl (fA 0 Ty.fi43_0) (jq_ 16 rfl (ld_ 1 Ty.sc22) (jp_ 17 rfl mv_ (jp_ 18 rfl (x_nilCheck rfl) (jp_ 19 rfl (fA 1 Ty.fi43_1) (jq_ 20 rfl (ld_ 1 Ty.sc3) (jq_ 21 rfl (ixM (cells_ro wsR) Tryz.underlying22 Ty.sz9) ?_ (hw := ⟨_, rfl, rfl⟩)) (hw := ⟨_, rfl, rfl⟩)) (hw := ⟨_, rfl, rfl⟩)) (hw := ⟨_, rfl, rfl⟩)) (hw := ⟨_, rfl, rfl⟩)) (hw := ⟨_, rfl, rfl⟩)) (hw := ⟨_, rfl, rfl⟩)) (hw := ⟨_, rfl, rfl⟩)) (hw := ⟨_, rfl, rfl⟩)) (hw := ⟨_, rfl, rfl⟩)
            refine jq_ 22 rfl (ldM vS [] (cells_ro wsR) Ty.sc9) (j1_ 12 (jc0_ rfl (cl_ Ty.ca54) (fun w hS => itoa_ok n38 w (hT.on hS (fun _ h => by cases h)) hy_ hy_) ?_ (hw := ⟨_, rfl, rfl⟩)) gm_) (hw := ⟨_, rfl, rfl⟩)
            have ha45 := R44.dec_lenI n38 (by omega)
            refine jp_ 23 rfl (x_neq_s rfl rfl) ?_ (hw := ⟨_, rfl, rfl⟩)
            refine jt_ 24 (vB (decide (Lib.decDigits n38.toNat ≠ (ws.getD j [])))) rfl (fun _ _ => rfl) ?_
            refine JA_done (by kernel_rfl) gm_ ?_
            refine n_ ?_
            refine ifd (fun h46w h46 => ?_) (fun h46w h46 => ?_)
            ·refine q_ (g_ (s_ av_ (z_ (xk_ [0, 2, 3, 6] ?_))))
             refine n_ (rt_ (nr_ (kq_ (nr_ ?_))))
             first
              | have hE := R40.basic_0 (ws := ws) (i := i) (by omega)
              | have hE := R40.basic_1 (ws := ws) (i := i) (by assumption)
              | have hE := R40.basic_f (ws := ws) (i := i) (by omega) (by assumption) (by assumption)
              | have hE := R40.basic_r (ws := ws) (i := i) (by omega) (by assumption) (by assumption) (by assumption)
              | have hE := R40.basic_n (ws := ws) (i := i) (by omega) (by assumption) (by assumption) (by assumption) (by assumption)
              | have hE := R40.basic_op (ws := ws) (i := i) (by omega) (by assumption) (by assumption) (by assumption) (by assumption) i1_1 (by omega) (by omega)
              | have hE := R40.basic_e (ws := ws) (i := i) (by omega) (by assumption) (by assumption) (by assumption) (by assumption) i1_1 (by omega) (by omega)
              | have hE := R40.basic_x (ws := ws) (i := i) (by omega) (by assumption) (by assumption) (by assumption) (by assumption) i1_1 (by omega) (R40.numC_no (by assumption) c40g0_)
              | have hE := R40.basic_y (ws := ws) (i := i) (by omega) (by assumption) (by assumption) (by assumption) (by assumption) i1_1 (by omega) (by omega) (R40.numC_yes (by assumption) (by omega) (by omega))
             refine JX_rets [_] _ Tryz.results89 (fun w h => ⟨rfl, trivial⟩) rfl _ (fun _ h => h.keep [false, true, false, true] rfl) ⟨o, oA, oC, ?_, ?_, ?_, ?_, ?_, ?_, ?_⟩
             ·have e_x0 : (false : Bool) = ((R40.basicV ws i).ok) := by first | rfl | (rw [hE]; done)
              exact congrArg (fun (x0 : Bool) => vB x0) e_x0
             ·have e_y0 : (j : Nat) = (R40.basicV ws i).pos := by
               first | rfl | (rw [hE]; done)
              have e_all := (congrArg (fun (y0 : Nat) => [Ent.blk p 43 [vL wsA ws.length wsC, vI ((y0 : Nat) : Int), vL oA o.length oC], Ent.row (.slice oA o.length oC) 40 4 o.length (o.flatMap Test.enc)]) e_y0)
              exact e_all
             ·exact c40g1_
             ·exact c40g2_
             ·(rw [hE]; dsimp only; omega)
             ·exact c40g3_
             ·(rw [hE]; dsimp only; omega)
            ·refine sk_ (n_ (q_ (g_ (s_ mv_ (s_ (fA 3 Ty.fi40_3) (o_ (st1 2 Ty.sz3 ?_)))))))
             refine z_ (xk_ [0, 2, 3] ?_)
             refine n_ (g_ (s_ mv_ (s_ (x_nilCheck rfl) (s_ (fA 1 Ty.fi43_1) (r_ (ld_ 1 Ty.sc3) (s_ (x_add_n (a := j) (b := 1) rfl rfl (by omega)) (s_ (x_nilCheck rfl) (s_ (fA 1 Ty.fi43_1) (o_ (st1 1 Ty.sz3 ?_))))))))))
             refine z_ (kx_ (n_ (q_ ?_)))
             refine drU [] [7, 10] 11 Ty.mixed ?_
             refine jp_ 0 rfl mv_ (jp_ 1 rfl mv_ (jp_ 2 rfl (x_nilCheck rfl) (jp_ 3 rfl (fA 2 Ty.fi43_2) ?_)))
             refine JA_early 4 (vL oA o.length oC) rfl (by kernel_rfl) (by kernel_rfl) (by kernel_rfl) rfl (by kernel_rfl) (fun _ _ _ h => h) rfl trivial (x_load 1 rfl rfl Ty.sc23 rfl) ?_
             refine JA_earlyT 5 (vG [vI 0, vS (ws.getD i []), vI op, vI n38]) rfl (by kernel_rfl) (by kernel_rfl) (by kernel_rfl) rfl (by kernel_rfl) (fun _ _ _ h => h) rfl trivial (x_loadN 2 [vI 0, vS (ws.getD i []), vI op, vI n38] rfl rfl Ty.ag40 Ty.sz40 rfl) ?_
             refine j1_ 6 (jio_ rfl (O_buildSlice (cs := [vI 0, vS (ws.getD i []), vI op, vI n38]) Tryz.underlying23 Ty.sz40 Ty.ze40 (by decide) (by decide) (by kernel_rfl) fun b48 => ?_)) (fun _ h => ⟨h.keep [false, false, false, false] rfl, fun _ => h⟩)
             refine j1_ 7 (jio_ rfl (O_append_f 4 Test.enc 4 o [(Test.mk 0 (ws.getD i []) op n38)] Tryz.underlying23 Ty.sz40 Ty.by40 Ty.ze40 rfl (by decide) rfl rfl rfl rfl Test.enc_len Test.enc_one (cells_blk 0 (off := 0) (m := 4) rfl rfl) lt_ lt_ fun A51 c52 => ?_)) (fun _ h => ⟨h.keep [false, false, false, false, false] rfl, fun _ => h.keep [false, true, true, true, true] rfl⟩)
             refine jp_ 8 rfl (x_nilCheck rfl) (jp_ 9 rfl (fA 2 Ty.fi43_2) (j1_ 10 (jio_ rfl (st1 2 Ty.sz23 ?_)) (gl_ rfl (fun _ h => h.keep [false, false, false, false, false] rfl))))
             refine JA_done (by kernel_rfl) (gl_ rfl (fun _ h => h.keep [false, false, false, false, false] rfl)) ?_
             refine n_ (q_ (g_ (s_ av_ (z_ (n_ (rt_ ?_))))))
             first
              | have hE := R40.basic_0 (ws := ws) (i := i) (by omega)
              | have hE := R40.basic_1 (ws := ws) (i := i) (by assumption)
              | have hE := R40.basic_f (ws := ws) (i := i) (by omega) (by assumption) (by assumption)
              | have hE := R40.basic_r (ws := ws) (i := i) (by omega) (by assumption) (by assumption) (by assumption)
              | have hE := R40.basic_n (ws := ws) (i := i) (by omega) (by assumption) (by assumption) (by assumption) (by assumption)
              | have hE := R40.basic_op (ws := ws) (i := i) (by omega) (by assumption) (by assumption) (by assumption) (by assumption) i1_1 (by omega) (by omega)
              | have hE := R40.basic_e (ws := ws) (i := i) (by omega) (by assumption) (by assumption) (by assumption) (by assumption) i1_1 (by omega) (by omega)
              | have hE := R40.basic_x (ws := ws) (i := i) (by omega) (by assumption) (by assumption) (by assumption) (by assumption) i1_1 (by omega) (R40.numC_no (by assumption) c40g0_)
              | have hE := R40.basic_y (ws := ws) (i := i) (by omega) (by assumption) (by assumption) (by assumption) (by assumption) i1_1 (by omega) (by omega) (R40.numC_yes (by assumption) (by omega) (by omega))
             refine JX_rets [_] _ Tryz.results89 (fun w h => ⟨rfl, trivial⟩) rfl _ (fun _ h => h.keep [false, false, true, false, true] rfl) ⟨o ++ [(Test.mk 0 (ws.getD i []) op n38)], A51, c52, ?_, ?_, ?_, ?_, ?_, ?_, ?_⟩
             ·have e_x0 : (true : Bool) = ((R40.basicV ws i).ok) := by first | rfl | (rw [hE]; done)
              exact congrArg (fun (x0 : Bool) => vB x0) e_x0
             ·have e_y0 : (o ++ [(Test.mk 0 (ws.getD i []) op n38)] : List Test) = (o ++ [(Test.mk 0 (ws.getD i []) op n38)]) := by
               first | rfl | (rw [hE]; done)
              have e_y1 : (j + 1 : Nat) = (R40.basicV ws i).pos := by
               first | rfl | (rw [hE]; done)
              have e_all := (congr (congrArg (fun (y0 : List Test) (y1 : Nat) => [Ent.blk p 43 [vL wsA ws.length wsC, vI ((y1 : Nat) : Int), vL A51 ((o ++ [(Test.mk 0 (ws.getD i []) op n38)]).length) c52], Ent.row (.slice A51 y0.length c52) 40 4 y0.length (y0.flatMap Test.enc)]) e_y0) e_y1)
              exact e_all
             ·exact c40g1_
             ·exact c40g2_
             ·(rw [hE]; dsimp only; omega)
             ·exact c40g3_
             ·(rw [hE]; dsimp only; omega)
     ·have h28w := h28
      obtain rfl := hf27 (by assumption)
      refine q_ (g_ (s_ av_ (z_ (n_ (rt_ (kq_ (nr_ ?_)))))))
      first
       | have hE := R40.basic_0 (ws := ws) (i := i) (by omega)
       | have hE := R40.basic_1 (ws := ws) (i := i) (by assumption)
       | have hE := R40.basic_f (ws := ws) (i := i) (by omega) (by assumption) (by assumption)
       | have hE := R40.basic_r (ws := ws) (i := i) (by omega) (by assumption) (by assumption) (by assumption)
       | have hE := R40.basic_n (ws := ws) (i := i) (by omega) (by assumption) (by assumption) (by assumption) (by assumption)
       | have hE := R40.basic_op (ws := ws) (i := i) (by omega) (by assumption) (by assumption) (by assumption) (by assumption) i1_1 (by omega) (by omega)
       | have hE := R40.basic_e (ws := ws) (i := i) (by omega) (by assumption) (by assumption) (by assumption) (by assumption) i1_1 (by omega) (by omega)
       | have hE := R40.basic_x (ws := ws) (i := i) (by omega) (by assumption) (by assumption) (by assumption) (by assumption) i1_1 (by omega) (R40.numC_no (by assumption) c40g0_)
       | have hE := R40.basic_y (ws := ws) (i := i) (by omega) (by assumption) (by assumption) (by assumption) (by assumption) i1_1 (by omega) (by omega) (R40.numC_yes (by assumption) (by omega) (by omega))
      refine JX_rets [_] _ Tryz.results89 (fun w h => ⟨rfl, trivial⟩) rfl _ (fun _ h => h.keep [true, false, true] rfl) ⟨o, oA, oC, ?_, ?_, ?_, ?_, ?_, ?_, ?_⟩
      ·have e_x0 : (false : Bool) = ((R40.basicV ws i).ok) := by first | rfl | (rw [hE]; done)
       exact congrArg (fun (x0 : Bool) => vB x0) e_x0
      ·have e_y0 : ((i + 1) : Nat) = (R40.basicV ws i).pos := by
        first | rfl | (rw [hE]; done)
       have e_all := (congrArg (fun (y0 : Nat) => [Ent.blk p 43 [vL wsA ws.length wsC, vI ((y0 : Nat) : Int), vL oA o.length oC], Ent.row (.slice oA o.length oC) 40 4 o.length (o.flatMap Test.enc)]) e_y0)
       exact e_all
      ·exact c40g1_
      ·exact c40g2_
      ·(rw [hE]; dsimp only; omega)
      ·exact c40g3_
      ·(rw [hE]; dsimp only; omega)
end Go.Proofs.YtngjdmhpljmkpaaGreatDoor
