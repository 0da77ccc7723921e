/- C40d, C40e in one text. -/
import Derived.Test.YtngjdmhpljmkpaaGreatDoorC40c
set_option linter.unusedVariables false
set_option linter.unusedSimpArgs false
namespace Go.Proofs.YtngjdmhpljmkpaaGreatDoor
open Go.GV
set_option linter.unusedVariables false
set_option linter.unusedSimpArgs false
theorem c40d0_ {p : Prop} (h : p := by first | exact q2 | exact q2.1 | exact q2.2 | omega | assumption) : p := h
theorem Tf32_ok_ {p : Prop} (h : p := by first | (have hd := R40.on_nil (ts := ts) (steps := steps) (by omega); first | (rw [hd]; done) | (rw [hd]; rfl)) | (have hd := R40.on_tree (ts := ts) (steps := steps) (by omega); first | (rw [hd]; done) | (rw [hd]; rfl))) : p := h
set_option maxRecDepth 20000 in
theorem f32_ok (ts : List Test) (tsA : Option Addr) (tsC : Nat) (steps : List Bytes) (stepsA : Option Addr) (stepsC : Nat) (w : World) (tsR : RO [] w tsA (ts.flatMap Test.enc)) (stepsR : RO [] w stepsA (steps.map vS)) (q0 : steps.length ≤ 9223372036854775807) (q1 : ts.length ≤ 9223372036854775807) : Calls Tryz.prog 32 #[vL tsA ts.length tsC, vL stepsA steps.length stepsC] w (Gives [] w fun v L => v = Value.tuple #[nodeO (R40.onV ts steps), vB ((R40.onV ts steps).isSome)] ∧ L = []) := by
 refine calls_J [] 19 Tryz.func32 rfl Tryz.ntmps32 [(0, _), (1, _)] rfl rfl (Give.nil w) ?_
 refine q_ (g_ (o_ (bx1 fun b1 => ?_)))
 refine s_ av_ (s_ av_ (z_ (n_ (q_ (q_ (g_ (s_ mv_ (s_ (lnS Tryz.underlying23) (s_ (x_eql_i rfl rfl) (z_ (n_ ?_)))))))))))
 refine ifd (fun h2w h2 => ?_) (fun h2w h2 => ?_)
 ·refine q_ (g_ (js_ (vG [vI 3, vS [], vI 0, vI 0]) (x_build (by kernel_rfl)) (js_ (vG [vI 3, vS [], vI 0, vI 0, vI 0]) (x_build (by kernel_rfl)) (js_ (Value.iface 64 (vG [vI 3, vS [], vI 0, vI 0, vI 0])) (x_iface rfl (by kernel_rfl)) (js_ (vG [Value.iface 64 (vG [vI 3, vS [], vI 0, vI 0, vI 0])]) (x_build (by kernel_rfl)) (js_ (Value.iface 85 (vG [Value.iface 64 (vG [vI 3, vS [], vI 0, vI 0, vI 0])])) (x_iface rfl (by kernel_rfl)) (s_ av_ (s_ av_ (z_ (n_ (rt_ (nr_ ?_))))))))))))
  refine p2 Tryz.results32 rfl rfl ⟨?_, rfl⟩
  have e_x0 : (Value.iface 85 (vG [Value.iface 64 (vG [vI 3, vS [], vI 0, vI 0, vI 0])]) : Value) = (nodeO (R40.onV ts steps)) := Tf32_ok_
  have e_x1 : (true : Bool) = ((R40.onV ts steps).isSome) := Tf32_ok_
  have e_all := (congr (congrArg (fun (x0 : Value) (x1 : Bool) => Value.tuple #[x0, vB x1]) e_x0) e_x1)
  exact e_all
 ·refine sk_ (n_ (q_ (g_ (s_ mv_ (js_ (Value.func (.func 58) #[] #[pB b1 0]) (x_makeFunc rfl rfl) ?_)))))
  refine JO_call [b1] [Ent.blk b1 22 [vL stepsA steps.length stepsC]] [] rfl trivial (fun _ => x_call Ty.ca25 rfl) (fun _ h => h) (own_mem rfl) (fun w hS => ftree_on ts tsA tsC b1 steps stepsA stepsC w (tsR.on hS (own_mem rfl)) (stepsR.on hS (own_mem rfl)) hy_ hy_ (hS.give (own_in rfl))) ?_
  rintro _ _ ⟨rfl, rfl⟩
  refine s_ (ex_ 0) (s_ (ex_ 1) (s_ av_ (s_ av_ (z_ (n_ (rt_ ?_))))))
  refine p2 Tryz.results32 rfl rfl ⟨?_, rfl⟩
  have e_x0 : (nodeO (R40.treeV (R40.onP steps) ts) : Value) = (nodeO (R40.onV ts steps)) := Tf32_ok_
  have e_x1 : ((R40.treeV (R40.onP steps) ts).isSome : Bool) = ((R40.onV ts steps).isSome) := Tf32_ok_
  have e_all := (congr (congrArg (fun (x0 : Value) (x1 : Bool) => Value.tuple #[x0, vB x1]) e_x0) e_x1)
  exact e_all
set_option maxRecDepth 20000 in
theorem f34_ok (t : Test) (i : Int) (bq : Nat) (bp : Nat) (E : List StepEnd) (EA : Option Addr) (EC : Nat) (steps : List Bytes) (stepsA : Option Addr) (stepsC : Nat) (w : World) (ER : RO [bq, bp] w EA (E.flatMap StepEnd.enc)) (stepsR : RO [bq, bp] w stepsA (steps.map vS)) (q0 : steps.length ≤ 9223372036854775807) (q1 : E.length ≤ 9223372036854775807) (q2 : t.Kind = 0 → 0 ≤ t.Op ∧ t.Op ≤ 5) (q3 : t.Kind ≠ 3 → 0 ≤ R40.idx steps t.Step) (hg : Give [bq, bp] w [Ent.blk bq 33 [vL EA E.length EC], Ent.blk bp 22 [vL stepsA steps.length stepsC]]) : Calls Tryz.prog 34 #[vG (Test.enc t ++ [vI i]), pB bq 0, pB bp 0] w (Gives [bq, bp] w fun v L => v = vB (R40.leafV steps E t i) ∧ L = [Ent.blk bq 33 [vL EA E.length EC], Ent.blk bp 22 [vL stepsA steps.length stepsC]]) := by
 refine calls_J [bq, bp] 30 Tryz.func34 rfl Tryz.ntmps34 [(0, _), (1, _), (2, _)] rfl rfl hg ?_
 refine q_ (g_ (o_ (bxG fun b1 => ?_)))
 refine s_ av_ (z_ (n_ (q_ (q_ (g_ (s_ (fA 0 Ty.fi64_0) (s_ (fA 0 Ty.fi40_0) (r_ (ld_ 0 Ty.sc3) (s_ (x_eql_i rfl rfl) (z_ (n_ ?_)))))))))))
 refine ifd (fun h2w h2 => ?_) (fun h2w h2 => ?_)
 ·refine q_ (g_ (r_ (ld_ 1 Ty.sc33) (c0 (cl_ Ty.ca35) (fun w hS => f35_ok E EA EC w (rno ER hS) hy_) (s_ av_ (z_ (n_ (rt_ (nr_ ?_))))))))
  refine JX_rets [_] _ Tryz.results34 (fun w h => ⟨rfl, trivial⟩) rfl _ (fun _ h => h.keep [false, true, true] rfl) ⟨?_, ?_⟩
  ·have e_x0 : (E.any R40.failed : Bool) = (R40.leafV steps E t i) := by first | exact R40.leafV_any (by assumption) | exact R40.leafV_t (by assumption) (by omega) | exact R40.leafV_f (by assumption) (by omega)
   exact congrArg (fun (x0 : Bool) => vB x0) e_x0
  ·rfl
 ·refine sk_ (n_ (q_ (g_ (r_ (ld_ 2 Ty.sc22) (s_ (fA 0 Ty.fi64_0) (s_ (fA 1 Ty.fi40_1) (r_ (ld_ 0 Ty.sc9) (c0 (cl_ Ty.ca37) (fun w hS => f37_ok _ _ _ _ w (rno stepsR hS) hy_) ?_))))))))
  have ha3 := R40.idx_lt steps t.Step
  refine s_ av_ (z_ (n_ (q_ ?_)))
  refine drB [] 14 Ty.mixed ?_
  refine jp_ 0 rfl mv_ (jq_ 1 rfl (ld_ 1 Ty.sc33) (jp_ 2 rfl (lnS Tryz.underlying33) (jp_ 3 rfl (x_lss_i rfl rfl) (jp_ 4 rfl mv_ ?_))))
  refine jb_ 21 (fun h4 => ?_) (fun h4 => ?_)
  ·have h4 := of_decide_eq_true h4
   refine jp_ 5 rfl (fA 0 Ty.fi64_0) (jq_ 6 rfl (ldN 0 (Test.enc t) Ty.ag40 Ty.sz40) (jq_ 7 rfl (ld_ 1 Ty.sc33) (jp_ 8 rfl mv_ (jq_ 9 rfl (ixF (k := (R40.idx steps t.Step).toNat) (hy := (ix_nat rfl (by omega))) StepEnd.enc_len (cells_ro ER) Tryz.underlying33 Ty.sz38) (jq_ 10 rfl (ldFN StepEnd.enc_len (cells_ro ER) Ty.ag38 Ty.sz38) (j1_ 11 (jc0_ rfl (cl_ Ty.ca38) (fun w hS => f38_ok t _ w hy_) ?_ (hw := ⟨_, rfl, rfl⟩)) gm_) (hw := ⟨_, rfl, rfl⟩)) (hw := ⟨_, rfl, rfl⟩)) (hw := ⟨_, rfl, rfl⟩)) (hw := ⟨_, rfl, rfl⟩)) (hw := ⟨_, rfl, rfl⟩)) (hw := ⟨_, rfl, rfl⟩)
   refine jt_ 12 (vB (R40.holds t (E.getD ((R40.idx steps t.Step).toNat) default))) rfl (fun _ _ => rfl) ?_
   refine jp_ 13 rfl av_ ?_
   refine JA_done (by kernel_rfl) gm_ ?_
   refine n_ (rt_ ?_)
   refine JX_rets [_] _ Tryz.results34 (fun w h => ⟨rfl, trivial⟩) rfl _ (fun _ h => h.keep [false, true, true] rfl) ⟨?_, ?_⟩
   ·have e_x0 : (R40.holds t (E.getD ((R40.idx steps t.Step).toNat) default) : Bool) = (R40.leafV steps E t i) := by first | exact R40.leafV_any (by assumption) | exact R40.leafV_t (by assumption) (by omega) | exact R40.leafV_f (by assumption) (by omega)
    exact congrArg (fun (x0 : Bool) => vB x0) e_x0
   ·rfl
  ·have h4 := of_decide_eq_false h4
   refine js2_ 5 rfl (js2_ 6 rfl (js2_ 7 rfl (js2_ 8 rfl (js2_ 9 rfl (js2_ 10 rfl (js2_ 11 rfl ?_))))))
   refine jt_ 12 (vB false) rfl (fun _ _ => rfl) ?_
   refine jp_ 13 rfl av_ ?_
   refine JA_done (by kernel_rfl) gm_ ?_
   refine n_ (rt_ ?_)
   refine JX_rets [_] _ Tryz.results34 (fun w h => ⟨rfl, trivial⟩) rfl _ (fun _ h => h.keep [false, true, true] rfl) ⟨?_, ?_⟩
   ·have e_x0 : (false : Bool) = (R40.leafV steps E t i) := by first | exact R40.leafV_any (by assumption) | exact R40.leafV_t (by assumption) (by omega) | exact R40.leafV_f (by assumption) (by omega)
    exact congrArg (fun (x0 : Bool) => vB x0) e_x0
   ·rfl
set_option maxRecDepth 20000 in
theorem f33_ok_aux (m : Nat) : ∀ (x : Node) (bq : Nat) (bp : Nat) (E : List StepEnd) (EA : Option Addr) (EC : Nat) (steps : List Bytes) (stepsA : Option Addr) (stepsC : Nat) (w : World) (ER : RO [bq, bp] w EA (E.flatMap StepEnd.enc)) (stepsR : RO [bq, bp] w stepsA (steps.map vS)) (q0 : steps.length ≤ 9223372036854775807) (q1 : E.length ≤ 9223372036854775807) (q2 : R40.good (R40.onP steps) x) (hg : Give [bq, bp] w [Ent.blk bq 33 [vL EA E.length EC], Ent.blk bp 22 [vL stepsA steps.length stepsC]]), R40.size x < m → Calls Tryz.prog 33 #[nodeV x, Value.func (.func 34) #[] #[pB bq 0, pB bp 0]] w (Gives [bq, bp] w fun v L => v = vB (R40.eval (R40.leafV steps E) x) ∧ L = [Ent.blk bq 33 [vL EA E.length EC], Ent.blk bp 22 [vL stepsA steps.length stepsC]]) := by
 induction m with
 | zero => intro x bq bp E EA EC steps stepsA stepsC w ER stepsR q0 q1 q2 hg hm; omega
 | succ m ih =>
  intro x bq bp E EA EC steps stepsA stepsC w ER stepsR q0 q1 q2 hg hm
  refine calls_J [bq, bp] 48 Tryz.func33 rfl Tryz.ntmps33 [(0, _), (1, _)] rfl rfl hg ?_
  rcases x with ⟨t, i⟩ | x | ⟨b, y, z⟩
  ·simp only [R40.size] at hm
   simp only [R40.good] at q2
   refine J_weaken (E' := [(0, Value.iface 64 (vG (Test.enc t ++ [vI i]))), (1, Value.func (.func 34) #[] #[pB bq 0, pB bp 0])]) (L' := [Ent.blk bq 33 [vL EA E.length EC], Ent.blk bp 22 [vL stepsA steps.length stepsC]]) ⟨rfl, rfl, trivial⟩ (fun _ h => h) ?_
   refine q_ (g_ (s_ av_ (z_ (n_ (q_ (q_ (g_ (s_ mv_ (z_ (n_ (k_ (q_ (g_ (s_ (x_assert_hit rfl Tryz.underlying64) (s_ (ex_ 1) (s_ (ex_ 0) (z_ (n_ (ift (q_ (g_ (o_ (al_ Ty.ze64 fun b1 => ?_)))))))))))))))))))))))
   refine o_ (stG 0 Ty.sz64 ?_)
   refine z_ (n_ (q_ (g_ (s_ mv_ (r_ (ldN 0 (Test.enc t ++ [vI i]) Ty.ag64 Ty.sz64) ?_)))))
   refine JO_call [bq, bp] [Ent.blk bq 33 [vL EA E.length EC], Ent.blk bp 22 [vL stepsA steps.length stepsC]] [Ent.blk b1 64 (Test.enc t ++ [vI i])] rfl trivial (fun _ => x_callv (first := []) (caps := [pB bq 0, pB bp 0]) rfl Ty.ca34 rfl) (fun _ h => ((h.front 2 _ rfl).front 2 _ rfl).keep [true, true, true] rfl) (own_mem rfl) (fun w hS => f34_ok t i bq bp E EA EC steps stepsA stepsC w (ER.on hS (own_mem rfl)) (stepsR.on hS (own_mem rfl)) hy_ hy_ (by exact R40.leaf_code q2) (by exact R40.leaf_idx q2) (hS.give (own_in rfl))) ?_
   rintro _ _ ⟨rfl, rfl⟩
   refine s_ av_ (z_ (n_ (rt_ (kq_ (nr_ ?_)))))
   refine JX_rets [_] _ Tryz.results33 (fun w h => ⟨rfl, trivial⟩) rfl _ (fun _ h => h.keep [true, true, false] rfl) ⟨?_, ?_⟩
   ·have e_x0 : (R40.leafV steps E t i : Bool) = (R40.eval (R40.leafV steps E) (Node.leaf t i)) := by first | rfl | exact R40.eval_t (by assumption) | exact R40.eval_f (by assumption)
    exact congrArg (fun (x0 : Bool) => vB x0) e_x0
   ·rfl
  ·simp only [R40.size] at hm
   simp only [R40.good] at q2
   refine J_weaken (E' := [(0, Value.iface 85 (vG [nodeV x])), (1, Value.func (.func 34) #[] #[pB bq 0, pB bp 0])]) (L' := [Ent.blk bq 33 [vL EA E.length EC], Ent.blk bp 22 [vL stepsA steps.length stepsC]]) ⟨rfl, rfl, trivial⟩ (fun _ h => h) ?_
   refine q_ (g_ (s_ av_ (z_ (n_ (q_ (q_ (g_ (s_ mv_ (z_ (n_ (k_ (q_ (g_ (s_ (x_assert_miss rfl Tryz.underlying64 Ty.ze64 (by decide)) (s_ (ex_ 1) (s_ (ex_ 0) (z_ (n_ (iff_ (q_ (g_ (s_ (x_assert_hit rfl Tryz.underlying85) ?_))))))))))))))))))))))
   refine s_ (ex_ 1) (s_ (ex_ 0) (z_ (n_ (ift (q_ (g_ (o_ (al_ Ty.ze85 fun b2 => ?_))))))))
   refine o_ (stG 0 Ty.sz85 ?_)
   refine z_ (n_ (q_ (g_ (s_ (fA 0 Ty.fi85_0) (r_ (ld_ 0 Ty.sc50) (s_ mv_ ?_))))))
   refine JO_call [bq, bp] [Ent.blk bq 33 [vL EA E.length EC], Ent.blk bp 22 [vL stepsA steps.length stepsC]] [Ent.blk b2 85 [nodeV x]] rfl trivial (fun _ => x_call Ty.ca33 rfl) (fun _ h => ((h.front 2 _ rfl).front 2 _ rfl).keep [true, true, true] rfl) (own_mem rfl) (fun w hS => ih x bq bp E EA EC steps stepsA stepsC w (ER.on hS (own_mem rfl)) (stepsR.on hS (own_mem rfl)) hy_ hy_ c40d0_ (hS.give (own_in rfl)) (by omega)) ?_
   rintro _ _ ⟨rfl, rfl⟩
   refine s_ (x_not rfl) (s_ av_ (z_ (n_ (rt_ (kq_ (nr_ ?_))))))
   refine JX_rets [_] _ Tryz.results33 (fun w h => ⟨rfl, trivial⟩) rfl _ (fun _ h => h.keep [true, true, false] rfl) ⟨?_, ?_⟩
   ·have e_x0 : (!(R40.eval (R40.leafV steps E) x) : Bool) = (R40.eval (R40.leafV steps E) (Node.neg x)) := by first | rfl | exact R40.eval_t (by assumption) | exact R40.eval_f (by assumption)
    exact congrArg (fun (x0 : Bool) => vB x0) e_x0
   ·rfl
  ·simp only [R40.size] at hm
   simp only [R40.good] at q2
   refine J_weaken (E' := [(0, Value.iface 87 (vG [vB b, nodeV y, nodeV z])), (1, Value.func (.func 34) #[] #[pB bq 0, pB bp 0])]) (L' := [Ent.blk bq 33 [vL EA E.length EC], Ent.blk bp 22 [vL stepsA steps.length stepsC]]) ⟨rfl, rfl, trivial⟩ (fun _ h => h) ?_
   refine q_ (g_ (s_ av_ (z_ (n_ (q_ (q_ (g_ (s_ mv_ (z_ (n_ (k_ (q_ (g_ (s_ (x_assert_miss rfl Tryz.underlying64 Ty.ze64 (by decide)) (s_ (ex_ 1) (s_ (ex_ 0) (z_ (n_ (iff_ (q_ (g_ (s_ (x_assert_miss rfl Tryz.underlying85 Ty.ze85 (by decide)) ?_))))))))))))))))))))))
   refine s_ (ex_ 1) (s_ (ex_ 0) (z_ (n_ (iff_ (q_ (g_ (s_ (x_assert_hit rfl Tryz.underlying87) (s_ (ex_ 1) (s_ (ex_ 0) (z_ (n_ (ift (q_ (g_ (o_ (al_ Ty.ze87 fun b3 => ?_))))))))))))))))
   refine o_ (stG 0 Ty.sz87 ?_)
   refine z_ (n_ (q_ (q_ (g_ (s_ (fA 0 Ty.fi87_0) (r_ (ld_ 0 Ty.sc4) (z_ (n_ ?_))))))))
   refine if_ (fun h4 => ?_) (fun h4 => ?_)
   ·have h4w := h4
    refine q_ (g_ (s_ (fA 1 Ty.fi87_1) (r_ (ld_ 0 Ty.sc50) (s_ mv_ ?_))))
    refine JO_call [bq, bp] [Ent.blk bq 33 [vL EA E.length EC], Ent.blk bp 22 [vL stepsA steps.length stepsC]] [Ent.blk b3 87 [vB b, nodeV y, nodeV z]] rfl trivial (fun _ => x_call Ty.ca33 rfl) (fun _ h => ((h.front 2 _ rfl).front 2 _ rfl).keep [true, true, true] rfl) (own_mem rfl) (fun w hS => ih y bq bp E EA EC steps stepsA stepsC w (ER.on hS (own_mem rfl)) (stepsR.on hS (own_mem rfl)) hy_ hy_ c40d0_ (hS.give (own_in rfl)) (by omega)) ?_
    rintro _ _ ⟨rfl, rfl⟩
    refine s_ mv_ ?_
    refine and_ 4 (R40.eval (R40.leafV steps E) z) (fun g5 => ?_) ?_
    ·have g5r := g5
     refine sg_ g5 (fA 2 Ty.fi87_2) (rg_ g5 (ld_ 2 Ty.sc50) (sg_ g5 mv_ ?_))
     refine JO_call [bq, bp] [Ent.blk bq 33 [vL EA E.length EC], Ent.blk bp 22 [vL stepsA steps.length stepsC]] [Ent.blk b3 87 [vB b, nodeV y, nodeV z]] rfl ⟨_, rfl, g5⟩ (fun _ => x_call Ty.ca33 rfl) (fun _ h => h) (own_mem rfl) (fun w hS => ih z bq bp E EA EC steps stepsA stepsC w (ER.on hS (own_mem rfl)) (stepsR.on hS (own_mem rfl)) hy_ hy_ c40d0_ (hS.give (own_in rfl)) (by omega)) ?_
     rintro _ _ ⟨rfl, rfl⟩
     exact cr_
    refine s_ av_ (z_ (xk_ [1, 4, 7] ?_))
    refine n_ (rt_ (nr_ (kq_ (nr_ ?_))))
    refine JX_rets [_] _ Tryz.results33 (fun w h => ⟨rfl, trivial⟩) rfl _ (fun _ h => h.keep [true, true, false] rfl) ⟨?_, ?_⟩
    ·have e_x0 : ((R40.eval (R40.leafV steps E) y) && (R40.eval (R40.leafV steps E) z) : Bool) = (R40.eval (R40.leafV steps E) (Node.pair b y z)) := by first | rfl | exact R40.eval_t (by assumption) | exact R40.eval_f (by assumption)
     exact congrArg (fun (x0 : Bool) => vB x0) e_x0
    ·rfl
   ·have h4w := h4
    refine sk_ (n_ (q_ (g_ (s_ (fA 1 Ty.fi87_1) (r_ (ld_ 0 Ty.sc50) (s_ mv_ ?_))))))
    refine JO_call [bq, bp] [Ent.blk bq 33 [vL EA E.length EC], Ent.blk bp 22 [vL stepsA steps.length stepsC]] [Ent.blk b3 87 [vB b, nodeV y, nodeV z]] rfl trivial (fun _ => x_call Ty.ca33 rfl) (fun _ h => ((h.front 2 _ rfl).front 2 _ rfl).keep [true, true, true] rfl) (own_mem rfl) (fun w hS => ih y bq bp E EA EC steps stepsA stepsC w (ER.on hS (own_mem rfl)) (stepsR.on hS (own_mem rfl)) hy_ hy_ c40d0_ (hS.give (own_in rfl)) (by omega)) ?_
    rintro _ _ ⟨rfl, rfl⟩
    refine s_ mv_ ?_
    refine or_ 4 (R40.eval (R40.leafV steps E) z) (fun g6 => ?_) ?_
    ·have g6r := g6
     refine sg_ g6 (fA 2 Ty.fi87_2) (rg_ g6 (ld_ 2 Ty.sc50) (sg_ g6 mv_ ?_))
     refine JO_call [bq, bp] [Ent.blk bq 33 [vL EA E.length EC], Ent.blk bp 22 [vL stepsA steps.length stepsC]] [Ent.blk b3 87 [vB b, nodeV y, nodeV z]] rfl ⟨_, rfl, g6⟩ (fun _ => x_call Ty.ca33 rfl) (fun _ h => h) (own_mem rfl) (fun w hS => ih z bq bp E EA EC steps stepsA stepsC w (ER.on hS (own_mem rfl)) (stepsR.on hS (own_mem rfl)) hy_ hy_ c40d0_ (hS.give (own_in rfl)) (by omega)) ?_
     rintro _ _ ⟨rfl, rfl⟩
     exact cr_
    refine s_ av_ (z_ (xk_ [4] ?_))
    refine n_ (rt_ (kq_ (nr_ ?_)))
    refine JX_rets [_] _ Tryz.results33 (fun w h => ⟨rfl, trivial⟩) rfl _ (fun _ h => h.keep [true, true, false] rfl) ⟨?_, ?_⟩
    ·have e_x0 : ((R40.eval (R40.leafV steps E) y) || (R40.eval (R40.leafV steps E) z) : Bool) = (R40.eval (R40.leafV steps E) (Node.pair b y z)) := by first | rfl | exact R40.eval_t (by assumption) | exact R40.eval_f (by assumption)
     exact congrArg (fun (x0 : Bool) => vB x0) e_x0
    ·rfl
theorem f33_ok (x : Node) (bq : Nat) (bp : Nat) (E : List StepEnd) (EA : Option Addr) (EC : Nat) (steps : List Bytes) (stepsA : Option Addr) (stepsC : Nat) (w : World) (ER : RO [bq, bp] w EA (E.flatMap StepEnd.enc)) (stepsR : RO [bq, bp] w stepsA (steps.map vS)) (q0 : steps.length ≤ 9223372036854775807) (q1 : E.length ≤ 9223372036854775807) (q2 : R40.good (R40.onP steps) x) (hg : Give [bq, bp] w [Ent.blk bq 33 [vL EA E.length EC], Ent.blk bp 22 [vL stepsA steps.length stepsC]]) : Calls Tryz.prog 33 #[nodeV x, Value.func (.func 34) #[] #[pB bq 0, pB bp 0]] w (Gives [bq, bp] w fun v L => v = vB (R40.eval (R40.leafV steps E) x) ∧ L = [Ent.blk bq 33 [vL EA E.length EC], Ent.blk bp 22 [vL stepsA steps.length stepsC]]) :=
 f33_ok_aux (R40.size x + 1) x bq bp E EA EC steps stepsA stepsC w ER stepsR q0 q1 q2 hg (Nat.lt_succ_self _)
end Go.Proofs.YtngjdmhpljmkpaaGreatDoor

namespace Go.Proofs.YtngjdmhpljmkpaaGreatDoor
open Go.GV
set_option linter.unusedVariables false
set_option linter.unusedSimpArgs false
theorem c40e0_ {p : Prop} (h : p := by exact p1 Tryz.results16 rfl ⟨(eB (by first | exact R40.evalV_no (by assumption) | exact R40.evalV_yes (by assumption))), rfl⟩) : p := h
set_option maxRecDepth 20000 in
theorem f14_ok (ts : List Test) (tsA : Option Addr) (tsC : Nat) (steps : List Bytes) (stepsA : Option Addr) (stepsC : Nat) (w : World) (tsR : RO [] w tsA (ts.flatMap Test.enc)) (stepsR : RO [] w stepsA (steps.map vS)) (q0 : steps.length ≤ 9223372036854775807) (q1 : ts.length ≤ 9223372036854775807) : Calls Tryz.prog 14 #[vL tsA ts.length tsC, vL stepsA steps.length stepsC] w (Gives [] w fun v L => v = vB ((R40.onV ts steps).isSome) ∧ L = []) := by
 refine calls_J [] 14 Tryz.func14 rfl Tryz.ntmps14 [(0, _), (1, _)] rfl rfl (Give.nil w) ?_
 refine q_ (g_ (s_ av_ (z_ (n_ (q_ (g_ (s_ mv_ (s_ mv_ (c0 (cl_ Ty.ca32) (fun w hS => f32_ok ts tsA tsC _ _ _ w (rno tsR hS) (rno stepsR hS) hy_ hy_) (s_ mv_ (s_ (ex_ 0) (s_ (ex_ 1) (s_ av_ ?_)))))))))))))
 refine s_ av_ (z_ (n_ (q_ (g_ (s_ mv_ (s_ av_ (z_ (n_ (rt_ ?_)))))))))
 exact p1 Tryz.results14 rfl ⟨rfl, rfl⟩
set_option maxRecDepth 20000 in
theorem f16_ok (ts : List Test) (tsA : Option Addr) (tsC : Nat) (steps : List Bytes) (stepsA : Option Addr) (stepsC : Nat) (ends : List StepEnd) (endsA : Option Addr) (endsC : Nat) (w : World) (tsR : RO [] w tsA (ts.flatMap Test.enc)) (stepsR : RO [] w stepsA (steps.map vS)) (endsR : RO [] w endsA (ends.flatMap StepEnd.enc)) (q0 : steps.length ≤ 9223372036854775807) (q1 : ts.length ≤ 9223372036854775807) (q2 : ends.length ≤ endsC ∧ ends.length ≤ 9223372036854775807) : Calls Tryz.prog 16 #[vL tsA ts.length tsC, vL stepsA steps.length stepsC, vL endsA ends.length endsC] w (Gives [] w fun v L => v = vB (R40.evalV ts steps ends) ∧ L = []) := by
 refine calls_J [] 27 Tryz.func16 rfl Tryz.ntmps16 [(0, _), (1, _), (2, _)] rfl rfl (Give.nil w) ?_
 refine q_ (g_ (o_ (bx1 fun b1 => ?_)))
 refine o_ (bx1 fun b2 => ?_)
 refine s_ av_ (z_ (n_ (q_ (g_ (s_ mv_ (r_ (ld_ 1 Ty.sc22) (c0 (cl_ Ty.ca32) (fun w hS => f32_ok ts tsA tsC _ _ _ w (rno tsR hS) (rno stepsR hS) hy_ hy_) (s_ mv_ (s_ (ex_ 0) (s_ (ex_ 1) (s_ av_ (s_ av_ ?_))))))))))))
 refine z_ (n_ (q_ (q_ (g_ (s_ mv_ (s_ (x_not rfl) (z_ (n_ ?_))))))))
 refine if_ (fun h3 => ?_) (fun h3 => ?_)
 ·have h3w := h3
  have h3 : ((R40.onV ts steps).isSome) = false := bnot_true h3
  refine q_ (g_ (s_ av_ (z_ (n_ (rt_ (nr_ ?_))))))
  exact c40e0_
 ·have h3w := h3
  have h3 : ((R40.onV ts steps).isSome) = true := bnot_false h3
  have hgx := R40.on_good (by assumption : (R40.onV ts steps).isSome = true)
  refine J_weaken (E' := [(0, vL tsA ts.length tsC), (1, vL stepsA steps.length stepsC), (2, vL endsA ends.length endsC), (4, pB b1 0), (5, pB b2 0), (6, vB false), (10, vL tsA ts.length tsC), (11, vL stepsA steps.length stepsC), (12, Value.tuple #[nodeO (R40.onV ts steps), vB ((R40.onV ts steps).isSome)]), (9, Value.tuple #[nodeO (R40.onV ts steps), vB ((R40.onV ts steps).isSome)]), (13, nodeV ((R40.onV ts steps).getD default)), (14, vB ((R40.onV ts steps).isSome)), (7, nodeV ((R40.onV ts steps).getD default)), (8, vB ((R40.onV ts steps).isSome)), (15, vB ((R40.onV ts steps).isSome)), (16, vB (!((R40.onV ts steps).isSome)))]) (L' := [Ent.blk b2 33 [vL endsA ends.length endsC], Ent.blk b1 22 [vL stepsA steps.length stepsC]]) ⟨rfl, rfl, rfl, rfl, rfl, rfl, rfl, rfl, rfl, rfl, (congrArg some (nodeO_some (by assumption))), rfl, (congrArg some (nodeO_some (by assumption))), rfl, rfl, rfl, trivial⟩ (fun _ h => h) ?_
  refine sk_ (n_ (q_ (g_ (r_ (ld_ 0 Ty.sc33) (r_ (ld_ 0 Ty.sc33) (s_ (lnS Tryz.underlying33) (r_ (ld_ 1 Ty.sc22) (s_ (lnS Tryz.underlying22) (s_ (x_min_n (a := ends.length) (b := steps.length) rfl rfl) (s_ (x_head rfl Tryz.underlying33 Ty.sz38 rfl lt_) ?_))))))))))
  obtain ⟨A4, hA5⟩ : ∃ x : Option Addr, x = endsA := ⟨_, rfl⟩
  have hro6 := RO.headF StepEnd.enc_len endsR (min ends.length steps.length)
  rw [← hA5] at hro6
  refine JO_weaken (E' := [(0, vL tsA ts.length tsC), (1, vL stepsA steps.length stepsC), (2, vL endsA ends.length endsC), (4, pB b1 0), (5, pB b2 0), (6, vB false), (10, vL tsA ts.length tsC), (11, vL stepsA steps.length stepsC), (12, Value.tuple #[nodeO (R40.onV ts steps), vB ((R40.onV ts steps).isSome)]), (9, Value.tuple #[nodeO (R40.onV ts steps), vB ((R40.onV ts steps).isSome)]), (13, nodeV ((R40.onV ts steps).getD default)), (14, vB ((R40.onV ts steps).isSome)), (7, nodeV ((R40.onV ts steps).getD default)), (8, vB ((R40.onV ts steps).isSome)), (15, vB ((R40.onV ts steps).isSome)), (16, vB (!((R40.onV ts steps).isSome))), (17, vL endsA ends.length endsC), (18, vL endsA ends.length endsC), (19, vI ((ends.length : Nat) : Int)), (20, vL stepsA steps.length stepsC), (21, vI ((steps.length : Nat) : Int)), (22, vI ((min ends.length steps.length : Nat) : Int)), (23, vL A4 ((ends.take (min ends.length steps.length)).length) endsC)]) (L' := [Ent.blk b2 33 [vL endsA ends.length endsC], Ent.blk b1 22 [vL stepsA steps.length stepsC]]) ⟨rfl, rfl, rfl, rfl, rfl, rfl, rfl, rfl, rfl, rfl, rfl, rfl, rfl, rfl, rfl, rfl, rfl, rfl, rfl, rfl, rfl, rfl, (by rw [hA5, ← take_len lt_]; rfl), trivial⟩ (fun _ h => h) ?_
  refine o_ (st1 0 Ty.sz33 ?_)
  refine z_ (xk_ [4, 5, 6, 7] ?_)
  refine n_ (q_ (g_ (s_ mv_ (js_ (Value.func (.func 34) #[] #[pB b2 0, pB b1 0]) (x_makeFunc rfl rfl) ?_))))
  refine JO_call [b2, b1] [Ent.blk b2 33 [vL A4 ((ends.take (min ends.length steps.length)).length) endsC], Ent.blk b1 22 [vL stepsA steps.length stepsC]] [] rfl trivial (fun _ => x_call Ty.ca33 rfl) (fun _ h => h) (own_mem rfl) (fun w hS => f33_ok ((R40.onV ts steps).getD default) b2 b1 (ends.take (min ends.length steps.length)) A4 endsC steps stepsA stepsC w (hro6.on hS (own_mem rfl)) (stepsR.on hS (own_mem rfl)) hy_ (by simp only [List.length_take]; omega) (by exact hgx) (hS.give (own_in rfl))) ?_
  rintro _ _ ⟨rfl, rfl⟩
  refine s_ av_ (z_ (n_ (rt_ ?_)))
  exact c40e0_
end Go.Proofs.YtngjdmhpljmkpaaGreatDoor
