/- C40d, C40e, Pw40b in one text. -/
import Derived.Test.YtngjdmhpljmkpaaDoorC40c
import Derived.Test.YtngjdmhpljmkpaaDoorAll8
import Derived.Test.YtngjdmhpljmkpaaDoorAll4
set_option linter.unusedVariables false
set_option linter.unusedSimpArgs false
namespace Go.Proofs.YtngjdmhpljmkpaaDoor
open Go.GV
set_option linter.unusedVariables false
set_option linter.unusedSimpArgs false
theorem c40d0_ {p : Prop} (h : p := by first | exact q2 | exact q2.1 | exact q2.2 | omega | assumption) : p := h
theorem Tf15_ok_ {p : Prop} (h : p := by first | (have hd := R40.on_nil (ts := ts) (steps := steps) (by omega); first | (rw [hd]; done) | (rw [hd]; rfl)) | (have hd := R40.on_tree (ts := ts) (steps := steps) (by omega); first | (rw [hd]; done) | (rw [hd]; rfl))) : p := h
set_option maxRecDepth 20000 in
theorem f15_ok (ts : List Test) (tsA : Option Addr) (tsC : Nat) (steps : List Bytes) (stepsA : Option Addr) (stepsC : Nat) (w : World) (tsR : RO [] w tsA (ts.flatMap Test.enc)) (stepsR : RO [] w stepsA (steps.map vS)) (q0 : steps.length ≤ 9223372036854775807) (q1 : ts.length ≤ 9223372036854775807) : Calls Tryd.prog 15 #[vL tsA ts.length tsC, vL stepsA steps.length stepsC] w (Gives [] w fun v L => v = Value.tuple #[nodeO (R40.onV ts steps), vB ((R40.onV ts steps).isSome)] ∧ L = []) := by
 refine calls_J [] 19 Tryd.func15 rfl Tryd.ntmps15 [(0, _), (1, _)] rfl rfl (Give.nil w) ?_
 refine q_ (g_ (o_ (bx1 fun b1 => ?_)))
 refine s_ av_ (s_ av_ (z_ (n_ (q_ (q_ (g_ (s_ mv_ (s_ (lnS Tryd.underlying22) (s_ (x_eql_i rfl rfl) (z_ (n_ ?_)))))))))))
 refine ifd (fun h2w h2 => ?_) (fun h2w h2 => ?_)
 ·refine q_ (g_ (js_ (vG [vI 3, vS [], vI 0, vI 0]) (x_build (by kernel_rfl)) (js_ (vG [vI 3, vS [], vI 0, vI 0, vI 0]) (x_build (by kernel_rfl)) (js_ (Value.iface 48 (vG [vI 3, vS [], vI 0, vI 0, vI 0])) (x_iface rfl (by kernel_rfl)) (js_ (vG [Value.iface 48 (vG [vI 3, vS [], vI 0, vI 0, vI 0])]) (x_build (by kernel_rfl)) (js_ (Value.iface 67 (vG [Value.iface 48 (vG [vI 3, vS [], vI 0, vI 0, vI 0])])) (x_iface rfl (by kernel_rfl)) (s_ av_ (s_ av_ (z_ (n_ (rt_ (nr_ ?_))))))))))))
  refine p2 Tryd.results15 rfl rfl ⟨?_, rfl⟩
  have e_x0 : (Value.iface 67 (vG [Value.iface 48 (vG [vI 3, vS [], vI 0, vI 0, vI 0])]) : Value) = (nodeO (R40.onV ts steps)) := Tf15_ok_
  have e_x1 : (true : Bool) = ((R40.onV ts steps).isSome) := Tf15_ok_
  have e_all := (congr (congrArg (fun (x0 : Value) (x1 : Bool) => Value.tuple #[x0, vB x1]) e_x0) e_x1)
  exact e_all
 ·refine sk_ (n_ (q_ (g_ (s_ mv_ (js_ (Value.func (.func 32) #[] #[pB b1 0]) (x_makeFunc rfl rfl) ?_)))))
  refine JO_call [b1] [Ent.blk b1 23 [vL stepsA steps.length stepsC]] [] rfl trivial (fun _ => x_call Ty.ca24 rfl) (fun _ h => h) (own_mem rfl) (fun w hS => ftree_on ts tsA tsC b1 steps stepsA stepsC w (tsR.on hS (own_mem rfl)) (stepsR.on hS (own_mem rfl)) hy_ hy_ (hS.give (own_in rfl))) ?_
  rintro _ _ ⟨rfl, rfl⟩
  refine s_ (ex_ 0) (s_ (ex_ 1) (s_ av_ (s_ av_ (z_ (n_ (rt_ ?_))))))
  refine p2 Tryd.results15 rfl rfl ⟨?_, rfl⟩
  have e_x0 : (nodeO (R40.treeV (R40.onP steps) ts) : Value) = (nodeO (R40.onV ts steps)) := Tf15_ok_
  have e_x1 : ((R40.treeV (R40.onP steps) ts).isSome : Bool) = ((R40.onV ts steps).isSome) := Tf15_ok_
  have e_all := (congr (congrArg (fun (x0 : Value) (x1 : Bool) => Value.tuple #[x0, vB x1]) e_x0) e_x1)
  exact e_all
set_option maxRecDepth 20000 in
theorem f17_ok (t : Test) (i : Int) (bq : Nat) (bp : Nat) (E : List StepEnd) (EA : Option Addr) (EC : Nat) (steps : List Bytes) (stepsA : Option Addr) (stepsC : Nat) (w : World) (ER : RO [bq, bp] w EA (E.flatMap StepEnd.enc)) (stepsR : RO [bq, bp] w stepsA (steps.map vS)) (q0 : steps.length ≤ 9223372036854775807) (q1 : E.length ≤ 9223372036854775807) (q2 : t.Kind = 0 → 0 ≤ t.Op ∧ t.Op ≤ 5) (q3 : t.Kind ≠ 3 → 0 ≤ R40.idx steps t.Step) (hg : Give [bq, bp] w [Ent.blk bq 24 [vL EA E.length EC], Ent.blk bp 23 [vL stepsA steps.length stepsC]]) : Calls Tryd.prog 17 #[vG (Test.enc t ++ [vI i]), pB bq 0, pB bp 0] w (Gives [bq, bp] w fun v L => v = vB (R40.leafV steps E t i) ∧ L = [Ent.blk bq 24 [vL EA E.length EC], Ent.blk bp 23 [vL stepsA steps.length stepsC]]) := by
 refine calls_J [bq, bp] 30 Tryd.func17 rfl Tryd.ntmps17 [(0, _), (1, _), (2, _)] rfl rfl hg ?_
 refine q_ (g_ (o_ (bxG fun b1 => ?_)))
 refine s_ av_ (z_ (n_ (q_ (q_ (g_ (s_ (fA 0 Ty.fi48_0) (s_ (fA 0 Ty.fi30_0) (r_ (ld_ 0 Ty.sc3) (s_ (x_eql_i rfl rfl) (z_ (n_ ?_)))))))))))
 refine ifd (fun h2w h2 => ?_) (fun h2w h2 => ?_)
 ·refine q_ (g_ (r_ (ld_ 1 Ty.sc24) (c0 (cl_ Ty.ca18) (fun w hS => f18_ok E EA EC w (rno ER hS) hy_) (s_ av_ (z_ (n_ (rt_ (nr_ ?_))))))))
  refine JX_rets [_] _ Tryd.results17 (fun w h => ⟨rfl, trivial⟩) rfl _ (fun _ h => h.keep [false, true, true] rfl) ⟨?_, ?_⟩
  ·have e_x0 : (E.any R40.failed : Bool) = (R40.leafV steps E t i) := by first | exact R40.leafV_any (by assumption) | exact R40.leafV_t (by assumption) (by omega) | exact R40.leafV_f (by assumption) (by omega)
   exact congrArg (fun (x0 : Bool) => vB x0) e_x0
  ·rfl
 ·refine sk_ (n_ (q_ (g_ (r_ (ld_ 2 Ty.sc23) (s_ (fA 0 Ty.fi48_0) (s_ (fA 1 Ty.fi30_1) (r_ (ld_ 0 Ty.sc9) (c0 (cl_ Ty.ca20) (fun w hS => f20_ok _ _ _ _ w (rno stepsR hS) hy_) ?_))))))))
  have ha3 := R40.idx_lt steps t.Step
  refine s_ av_ (z_ (n_ (q_ ?_)))
  refine drB [] 14 Ty.mixed ?_
  refine jp_ 0 rfl mv_ (jq_ 1 rfl (ld_ 1 Ty.sc24) (jp_ 2 rfl (lnS Tryd.underlying24) (jp_ 3 rfl (x_lss_i rfl rfl) (jp_ 4 rfl mv_ ?_))))
  refine jb_ 21 (fun h4 => ?_) (fun h4 => ?_)
  ·have h4 := of_decide_eq_true h4
   refine jp_ 5 rfl (fA 0 Ty.fi48_0) (jq_ 6 rfl (ldN 0 (Test.enc t) Ty.ag30 Ty.sz30) (jq_ 7 rfl (ld_ 1 Ty.sc24) (jp_ 8 rfl mv_ (jq_ 9 rfl (ixF (k := (R40.idx steps t.Step).toNat) (hy := (ix_nat rfl (by omega))) StepEnd.enc_len (cells_ro ER) Tryd.underlying24 Ty.sz28) (jq_ 10 rfl (ldFN StepEnd.enc_len (cells_ro ER) Ty.ag28 Ty.sz28) (j1_ 11 (jc0_ rfl (cl_ Ty.ca21) (fun w hS => f21_ok t _ w hy_) ?_ (hw := ⟨_, rfl, rfl⟩)) gm_) (hw := ⟨_, rfl, rfl⟩)) (hw := ⟨_, rfl, rfl⟩)) (hw := ⟨_, rfl, rfl⟩)) (hw := ⟨_, rfl, rfl⟩)) (hw := ⟨_, rfl, rfl⟩)) (hw := ⟨_, rfl, rfl⟩)
   refine jt_ 12 (vB (R40.holds t (E.getD ((R40.idx steps t.Step).toNat) default))) rfl (fun _ _ => rfl) ?_
   refine jp_ 13 rfl av_ ?_
   refine JA_done (by kernel_rfl) gm_ ?_
   refine n_ (rt_ ?_)
   refine JX_rets [_] _ Tryd.results17 (fun w h => ⟨rfl, trivial⟩) rfl _ (fun _ h => h.keep [false, true, true] rfl) ⟨?_, ?_⟩
   ·have e_x0 : (R40.holds t (E.getD ((R40.idx steps t.Step).toNat) default) : Bool) = (R40.leafV steps E t i) := by first | exact R40.leafV_any (by assumption) | exact R40.leafV_t (by assumption) (by omega) | exact R40.leafV_f (by assumption) (by omega)
    exact congrArg (fun (x0 : Bool) => vB x0) e_x0
   ·rfl
  ·have h4 := of_decide_eq_false h4
   refine js2_ 5 rfl (js2_ 6 rfl (js2_ 7 rfl (js2_ 8 rfl (js2_ 9 rfl (js2_ 10 rfl (js2_ 11 rfl ?_))))))
   refine jt_ 12 (vB false) rfl (fun _ _ => rfl) ?_
   refine jp_ 13 rfl av_ ?_
   refine JA_done (by kernel_rfl) gm_ ?_
   refine n_ (rt_ ?_)
   refine JX_rets [_] _ Tryd.results17 (fun w h => ⟨rfl, trivial⟩) rfl _ (fun _ h => h.keep [false, true, true] rfl) ⟨?_, ?_⟩
   ·have e_x0 : (false : Bool) = (R40.leafV steps E t i) := by first | exact R40.leafV_any (by assumption) | exact R40.leafV_t (by assumption) (by omega) | exact R40.leafV_f (by assumption) (by omega)
    exact congrArg (fun (x0 : Bool) => vB x0) e_x0
   ·rfl
set_option maxRecDepth 20000 in
theorem f16_ok_aux (m : Nat) : ∀ (x : Node) (bq : Nat) (bp : Nat) (E : List StepEnd) (EA : Option Addr) (EC : Nat) (steps : List Bytes) (stepsA : Option Addr) (stepsC : Nat) (w : World) (ER : RO [bq, bp] w EA (E.flatMap StepEnd.enc)) (stepsR : RO [bq, bp] w stepsA (steps.map vS)) (q0 : steps.length ≤ 9223372036854775807) (q1 : E.length ≤ 9223372036854775807) (q2 : R40.good (R40.onP steps) x) (hg : Give [bq, bp] w [Ent.blk bq 24 [vL EA E.length EC], Ent.blk bp 23 [vL stepsA steps.length stepsC]]), R40.size x < m → Calls Tryd.prog 16 #[nodeV x, Value.func (.func 17) #[] #[pB bq 0, pB bp 0]] w (Gives [bq, bp] w fun v L => v = vB (R40.eval (R40.leafV steps E) x) ∧ L = [Ent.blk bq 24 [vL EA E.length EC], Ent.blk bp 23 [vL stepsA steps.length stepsC]]) := by
 induction m with
 | zero => intro x bq bp E EA EC steps stepsA stepsC w ER stepsR q0 q1 q2 hg hm; omega
 | succ m ih =>
  intro x bq bp E EA EC steps stepsA stepsC w ER stepsR q0 q1 q2 hg hm
  refine calls_J [bq, bp] 48 Tryd.func16 rfl Tryd.ntmps16 [(0, _), (1, _)] rfl rfl hg ?_
  rcases x with ⟨t, i⟩ | x | ⟨b, y, z⟩
  ·simp only [R40.size] at hm
   simp only [R40.good] at q2
   refine J_weaken (E' := [(0, Value.iface 48 (vG (Test.enc t ++ [vI i]))), (1, Value.func (.func 17) #[] #[pB bq 0, pB bp 0])]) (L' := [Ent.blk bq 24 [vL EA E.length EC], Ent.blk bp 23 [vL stepsA steps.length stepsC]]) ⟨rfl, rfl, trivial⟩ (fun _ h => h) ?_
   refine q_ (g_ (s_ av_ (z_ (n_ (q_ (q_ (g_ (s_ mv_ (z_ (n_ (k_ (q_ (g_ (s_ (x_assert_hit rfl Tryd.underlying48) (s_ (ex_ 1) (s_ (ex_ 0) (z_ (n_ (ift (q_ (g_ (o_ (al_ Ty.ze48 fun b1 => ?_)))))))))))))))))))))))
   refine o_ (stG 0 Ty.sz48 ?_)
   refine z_ (n_ (q_ (g_ (s_ mv_ (r_ (ldN 0 (Test.enc t ++ [vI i]) Ty.ag48 Ty.sz48) ?_)))))
   refine JO_call [bq, bp] [Ent.blk bq 24 [vL EA E.length EC], Ent.blk bp 23 [vL stepsA steps.length stepsC]] [Ent.blk b1 48 (Test.enc t ++ [vI i])] rfl trivial (fun _ => x_callv (first := []) (caps := [pB bq 0, pB bp 0]) rfl Ty.ca17 rfl) (fun _ h => ((h.front 2 _ rfl).front 2 _ rfl).keep [true, true, true] rfl) (own_mem rfl) (fun w hS => f17_ok t i bq bp E EA EC steps stepsA stepsC w (ER.on hS (own_mem rfl)) (stepsR.on hS (own_mem rfl)) hy_ hy_ (by exact R40.leaf_code q2) (by exact R40.leaf_idx q2) (hS.give (own_in rfl))) ?_
   rintro _ _ ⟨rfl, rfl⟩
   refine s_ av_ (z_ (n_ (rt_ (kq_ (nr_ ?_)))))
   refine JX_rets [_] _ Tryd.results16 (fun w h => ⟨rfl, trivial⟩) rfl _ (fun _ h => h.keep [true, true, false] rfl) ⟨?_, ?_⟩
   ·have e_x0 : (R40.leafV steps E t i : Bool) = (R40.eval (R40.leafV steps E) (Node.leaf t i)) := by first | rfl | exact R40.eval_t (by assumption) | exact R40.eval_f (by assumption)
    exact congrArg (fun (x0 : Bool) => vB x0) e_x0
   ·rfl
  ·simp only [R40.size] at hm
   simp only [R40.good] at q2
   refine J_weaken (E' := [(0, Value.iface 67 (vG [nodeV x])), (1, Value.func (.func 17) #[] #[pB bq 0, pB bp 0])]) (L' := [Ent.blk bq 24 [vL EA E.length EC], Ent.blk bp 23 [vL stepsA steps.length stepsC]]) ⟨rfl, rfl, trivial⟩ (fun _ h => h) ?_
   refine q_ (g_ (s_ av_ (z_ (n_ (q_ (q_ (g_ (s_ mv_ (z_ (n_ (k_ (q_ (g_ (s_ (x_assert_miss rfl Tryd.underlying48 Ty.ze48 (by decide)) (s_ (ex_ 1) (s_ (ex_ 0) (z_ (n_ (iff_ (q_ (g_ (s_ (x_assert_hit rfl Tryd.underlying67) ?_))))))))))))))))))))))
   refine s_ (ex_ 1) (s_ (ex_ 0) (z_ (n_ (ift (q_ (g_ (o_ (al_ Ty.ze67 fun b2 => ?_))))))))
   refine o_ (stG 0 Ty.sz67 ?_)
   refine z_ (n_ (q_ (g_ (s_ (fA 0 Ty.fi67_0) (r_ (ld_ 0 Ty.sc43) (s_ mv_ ?_))))))
   refine JO_call [bq, bp] [Ent.blk bq 24 [vL EA E.length EC], Ent.blk bp 23 [vL stepsA steps.length stepsC]] [Ent.blk b2 67 [nodeV x]] rfl trivial (fun _ => x_call Ty.ca16 rfl) (fun _ h => ((h.front 2 _ rfl).front 2 _ rfl).keep [true, true, true] rfl) (own_mem rfl) (fun w hS => ih x bq bp E EA EC steps stepsA stepsC w (ER.on hS (own_mem rfl)) (stepsR.on hS (own_mem rfl)) hy_ hy_ c40d0_ (hS.give (own_in rfl)) (by omega)) ?_
   rintro _ _ ⟨rfl, rfl⟩
   refine s_ (x_not rfl) (s_ av_ (z_ (n_ (rt_ (kq_ (nr_ ?_))))))
   refine JX_rets [_] _ Tryd.results16 (fun w h => ⟨rfl, trivial⟩) rfl _ (fun _ h => h.keep [true, true, false] rfl) ⟨?_, ?_⟩
   ·have e_x0 : (!(R40.eval (R40.leafV steps E) x) : Bool) = (R40.eval (R40.leafV steps E) (Node.neg x)) := by first | rfl | exact R40.eval_t (by assumption) | exact R40.eval_f (by assumption)
    exact congrArg (fun (x0 : Bool) => vB x0) e_x0
   ·rfl
  ·simp only [R40.size] at hm
   simp only [R40.good] at q2
   refine J_weaken (E' := [(0, Value.iface 70 (vG [vB b, nodeV y, nodeV z])), (1, Value.func (.func 17) #[] #[pB bq 0, pB bp 0])]) (L' := [Ent.blk bq 24 [vL EA E.length EC], Ent.blk bp 23 [vL stepsA steps.length stepsC]]) ⟨rfl, rfl, trivial⟩ (fun _ h => h) ?_
   refine q_ (g_ (s_ av_ (z_ (n_ (q_ (q_ (g_ (s_ mv_ (z_ (n_ (k_ (q_ (g_ (s_ (x_assert_miss rfl Tryd.underlying48 Ty.ze48 (by decide)) (s_ (ex_ 1) (s_ (ex_ 0) (z_ (n_ (iff_ (q_ (g_ (s_ (x_assert_miss rfl Tryd.underlying67 Ty.ze67 (by decide)) ?_))))))))))))))))))))))
   refine s_ (ex_ 1) (s_ (ex_ 0) (z_ (n_ (iff_ (q_ (g_ (s_ (x_assert_hit rfl Tryd.underlying70) (s_ (ex_ 1) (s_ (ex_ 0) (z_ (n_ (ift (q_ (g_ (o_ (al_ Ty.ze70 fun b3 => ?_))))))))))))))))
   refine o_ (stG 0 Ty.sz70 ?_)
   refine z_ (n_ (q_ (q_ (g_ (s_ (fA 0 Ty.fi70_0) (r_ (ld_ 0 Ty.sc4) (z_ (n_ ?_))))))))
   refine if_ (fun h4 => ?_) (fun h4 => ?_)
   ·have h4w := h4
    refine q_ (g_ (s_ (fA 1 Ty.fi70_1) (r_ (ld_ 0 Ty.sc43) (s_ mv_ ?_))))
    refine JO_call [bq, bp] [Ent.blk bq 24 [vL EA E.length EC], Ent.blk bp 23 [vL stepsA steps.length stepsC]] [Ent.blk b3 70 [vB b, nodeV y, nodeV z]] rfl trivial (fun _ => x_call Ty.ca16 rfl) (fun _ h => ((h.front 2 _ rfl).front 2 _ rfl).keep [true, true, true] rfl) (own_mem rfl) (fun w hS => ih y bq bp E EA EC steps stepsA stepsC w (ER.on hS (own_mem rfl)) (stepsR.on hS (own_mem rfl)) hy_ hy_ c40d0_ (hS.give (own_in rfl)) (by omega)) ?_
    rintro _ _ ⟨rfl, rfl⟩
    refine s_ mv_ ?_
    refine and_ 4 (R40.eval (R40.leafV steps E) z) (fun g5 => ?_) ?_
    ·have g5r := g5
     refine sg_ g5 (fA 2 Ty.fi70_2) (rg_ g5 (ld_ 2 Ty.sc43) (sg_ g5 mv_ ?_))
     refine JO_call [bq, bp] [Ent.blk bq 24 [vL EA E.length EC], Ent.blk bp 23 [vL stepsA steps.length stepsC]] [Ent.blk b3 70 [vB b, nodeV y, nodeV z]] rfl ⟨_, rfl, g5⟩ (fun _ => x_call Ty.ca16 rfl) (fun _ h => h) (own_mem rfl) (fun w hS => ih z bq bp E EA EC steps stepsA stepsC w (ER.on hS (own_mem rfl)) (stepsR.on hS (own_mem rfl)) hy_ hy_ c40d0_ (hS.give (own_in rfl)) (by omega)) ?_
     rintro _ _ ⟨rfl, rfl⟩
     exact cr_
    refine s_ av_ (z_ (xk_ [1, 4, 7] ?_))
    refine n_ (rt_ (nr_ (kq_ (nr_ ?_))))
    refine JX_rets [_] _ Tryd.results16 (fun w h => ⟨rfl, trivial⟩) rfl _ (fun _ h => h.keep [true, true, false] rfl) ⟨?_, ?_⟩
    ·have e_x0 : ((R40.eval (R40.leafV steps E) y) && (R40.eval (R40.leafV steps E) z) : Bool) = (R40.eval (R40.leafV steps E) (Node.pair b y z)) := by first | rfl | exact R40.eval_t (by assumption) | exact R40.eval_f (by assumption)
     exact congrArg (fun (x0 : Bool) => vB x0) e_x0
    ·rfl
   ·have h4w := h4
    refine sk_ (n_ (q_ (g_ (s_ (fA 1 Ty.fi70_1) (r_ (ld_ 0 Ty.sc43) (s_ mv_ ?_))))))
    refine JO_call [bq, bp] [Ent.blk bq 24 [vL EA E.length EC], Ent.blk bp 23 [vL stepsA steps.length stepsC]] [Ent.blk b3 70 [vB b, nodeV y, nodeV z]] rfl trivial (fun _ => x_call Ty.ca16 rfl) (fun _ h => ((h.front 2 _ rfl).front 2 _ rfl).keep [true, true, true] rfl) (own_mem rfl) (fun w hS => ih y bq bp E EA EC steps stepsA stepsC w (ER.on hS (own_mem rfl)) (stepsR.on hS (own_mem rfl)) hy_ hy_ c40d0_ (hS.give (own_in rfl)) (by omega)) ?_
    rintro _ _ ⟨rfl, rfl⟩
    refine s_ mv_ ?_
    refine or_ 4 (R40.eval (R40.leafV steps E) z) (fun g6 => ?_) ?_
    ·have g6r := g6
     refine sg_ g6 (fA 2 Ty.fi70_2) (rg_ g6 (ld_ 2 Ty.sc43) (sg_ g6 mv_ ?_))
     refine JO_call [bq, bp] [Ent.blk bq 24 [vL EA E.length EC], Ent.blk bp 23 [vL stepsA steps.length stepsC]] [Ent.blk b3 70 [vB b, nodeV y, nodeV z]] rfl ⟨_, rfl, g6⟩ (fun _ => x_call Ty.ca16 rfl) (fun _ h => h) (own_mem rfl) (fun w hS => ih z bq bp E EA EC steps stepsA stepsC w (ER.on hS (own_mem rfl)) (stepsR.on hS (own_mem rfl)) hy_ hy_ c40d0_ (hS.give (own_in rfl)) (by omega)) ?_
     rintro _ _ ⟨rfl, rfl⟩
     exact cr_
    refine s_ av_ (z_ (xk_ [4] ?_))
    refine n_ (rt_ (kq_ (nr_ ?_)))
    refine JX_rets [_] _ Tryd.results16 (fun w h => ⟨rfl, trivial⟩) rfl _ (fun _ h => h.keep [true, true, false] rfl) ⟨?_, ?_⟩
    ·have e_x0 : ((R40.eval (R40.leafV steps E) y) || (R40.eval (R40.leafV steps E) z) : Bool) = (R40.eval (R40.leafV steps E) (Node.pair b y z)) := by first | rfl | exact R40.eval_t (by assumption) | exact R40.eval_f (by assumption)
     exact congrArg (fun (x0 : Bool) => vB x0) e_x0
    ·rfl
theorem f16_ok (x : Node) (bq : Nat) (bp : Nat) (E : List StepEnd) (EA : Option Addr) (EC : Nat) (steps : List Bytes) (stepsA : Option Addr) (stepsC : Nat) (w : World) (ER : RO [bq, bp] w EA (E.flatMap StepEnd.enc)) (stepsR : RO [bq, bp] w stepsA (steps.map vS)) (q0 : steps.length ≤ 9223372036854775807) (q1 : E.length ≤ 9223372036854775807) (q2 : R40.good (R40.onP steps) x) (hg : Give [bq, bp] w [Ent.blk bq 24 [vL EA E.length EC], Ent.blk bp 23 [vL stepsA steps.length stepsC]]) : Calls Tryd.prog 16 #[nodeV x, Value.func (.func 17) #[] #[pB bq 0, pB bp 0]] w (Gives [bq, bp] w fun v L => v = vB (R40.eval (R40.leafV steps E) x) ∧ L = [Ent.blk bq 24 [vL EA E.length EC], Ent.blk bp 23 [vL stepsA steps.length stepsC]]) :=
 f16_ok_aux (R40.size x + 1) x bq bp E EA EC steps stepsA stepsC w ER stepsR q0 q1 q2 hg (Nat.lt_succ_self _)
end Go.Proofs.YtngjdmhpljmkpaaDoor

namespace Go.Proofs.YtngjdmhpljmkpaaDoor
open Go.GV
set_option linter.unusedVariables false
set_option linter.unusedSimpArgs false
theorem c40e0_ {p : Prop} (h : p := by exact p1 Tryd.results7 rfl ⟨(eB (by first | exact R40.evalV_no (by assumption) | exact R40.evalV_yes (by assumption))), rfl⟩) : p := h
set_option maxRecDepth 20000 in
theorem f8_ok (ts : List Test) (tsA : Option Addr) (tsC : Nat) (steps : List Bytes) (stepsA : Option Addr) (stepsC : Nat) (w : World) (tsR : RO [] w tsA (ts.flatMap Test.enc)) (stepsR : RO [] w stepsA (steps.map vS)) (q0 : steps.length ≤ 9223372036854775807) (q1 : ts.length ≤ 9223372036854775807) : Calls Tryd.prog 8 #[vL tsA ts.length tsC, vL stepsA steps.length stepsC] w (Gives [] w fun v L => v = vB ((R40.onV ts steps).isSome) ∧ L = []) := by
 refine calls_J [] 14 Tryd.func8 rfl Tryd.ntmps8 [(0, _), (1, _)] rfl rfl (Give.nil w) ?_
 refine q_ (g_ (s_ av_ (z_ (n_ (q_ (g_ (s_ mv_ (s_ mv_ (c0 (cl_ Ty.ca15) (fun w hS => f15_ok ts tsA tsC _ _ _ w (rno tsR hS) (rno stepsR hS) hy_ hy_) (s_ mv_ (s_ (ex_ 0) (s_ (ex_ 1) (s_ av_ ?_)))))))))))))
 refine s_ av_ (z_ (n_ (q_ (g_ (s_ mv_ (s_ av_ (z_ (n_ (rt_ ?_)))))))))
 exact p1 Tryd.results8 rfl ⟨rfl, rfl⟩
set_option maxRecDepth 20000 in
theorem f7_ok (ts : List Test) (tsA : Option Addr) (tsC : Nat) (steps : List Bytes) (stepsA : Option Addr) (stepsC : Nat) (ends : List StepEnd) (endsA : Option Addr) (endsC : Nat) (w : World) (tsR : RO [] w tsA (ts.flatMap Test.enc)) (stepsR : RO [] w stepsA (steps.map vS)) (endsR : RO [] w endsA (ends.flatMap StepEnd.enc)) (q0 : steps.length ≤ 9223372036854775807) (q1 : ts.length ≤ 9223372036854775807) (q2 : ends.length ≤ endsC ∧ ends.length ≤ 9223372036854775807) : Calls Tryd.prog 7 #[vL tsA ts.length tsC, vL stepsA steps.length stepsC, vL endsA ends.length endsC] w (Gives [] w fun v L => v = vB (R40.evalV ts steps ends) ∧ L = []) := by
 refine calls_J [] 27 Tryd.func7 rfl Tryd.ntmps7 [(0, _), (1, _), (2, _)] rfl rfl (Give.nil w) ?_
 refine q_ (g_ (o_ (bx1 fun b1 => ?_)))
 refine o_ (bx1 fun b2 => ?_)
 refine s_ av_ (z_ (n_ (q_ (g_ (s_ mv_ (r_ (ld_ 1 Ty.sc23) (c0 (cl_ Ty.ca15) (fun w hS => f15_ok ts tsA tsC _ _ _ w (rno tsR hS) (rno stepsR hS) hy_ hy_) (s_ mv_ (s_ (ex_ 0) (s_ (ex_ 1) (s_ av_ (s_ av_ ?_))))))))))))
 refine z_ (n_ (q_ (q_ (g_ (s_ mv_ (s_ (x_not rfl) (z_ (n_ ?_))))))))
 refine if_ (fun h3 => ?_) (fun h3 => ?_)
 ·have h3w := h3
  have h3 : ((R40.onV ts steps).isSome) = false := bnot_true h3
  refine q_ (g_ (s_ av_ (z_ (n_ (rt_ (nr_ ?_))))))
  exact c40e0_
 ·have h3w := h3
  have h3 : ((R40.onV ts steps).isSome) = true := bnot_false h3
  have hgx := R40.on_good (by assumption : (R40.onV ts steps).isSome = true)
  refine J_weaken (E' := [(0, vL tsA ts.length tsC), (1, vL stepsA steps.length stepsC), (2, vL endsA ends.length endsC), (4, pB b1 0), (5, pB b2 0), (6, vB false), (10, vL tsA ts.length tsC), (11, vL stepsA steps.length stepsC), (12, Value.tuple #[nodeO (R40.onV ts steps), vB ((R40.onV ts steps).isSome)]), (9, Value.tuple #[nodeO (R40.onV ts steps), vB ((R40.onV ts steps).isSome)]), (13, nodeV ((R40.onV ts steps).getD default)), (14, vB ((R40.onV ts steps).isSome)), (7, nodeV ((R40.onV ts steps).getD default)), (8, vB ((R40.onV ts steps).isSome)), (15, vB ((R40.onV ts steps).isSome)), (16, vB (!((R40.onV ts steps).isSome)))]) (L' := [Ent.blk b2 24 [vL endsA ends.length endsC], Ent.blk b1 23 [vL stepsA steps.length stepsC]]) ⟨rfl, rfl, rfl, rfl, rfl, rfl, rfl, rfl, rfl, rfl, (congrArg some (nodeO_some (by assumption))), rfl, (congrArg some (nodeO_some (by assumption))), rfl, rfl, rfl, trivial⟩ (fun _ h => h) ?_
  refine sk_ (n_ (q_ (g_ (r_ (ld_ 0 Ty.sc24) (r_ (ld_ 0 Ty.sc24) (s_ (lnS Tryd.underlying24) (r_ (ld_ 1 Ty.sc23) (s_ (lnS Tryd.underlying23) (s_ (x_min_n (a := ends.length) (b := steps.length) rfl rfl) (s_ (x_head rfl Tryd.underlying24 Ty.sz28 rfl lt_) ?_))))))))))
  obtain ⟨A4, hA5⟩ : ∃ x : Option Addr, x = endsA := ⟨_, rfl⟩
  have hro6 := RO.headF StepEnd.enc_len endsR (min ends.length steps.length)
  rw [← hA5] at hro6
  refine JO_weaken (E' := [(0, vL tsA ts.length tsC), (1, vL stepsA steps.length stepsC), (2, vL endsA ends.length endsC), (4, pB b1 0), (5, pB b2 0), (6, vB false), (10, vL tsA ts.length tsC), (11, vL stepsA steps.length stepsC), (12, Value.tuple #[nodeO (R40.onV ts steps), vB ((R40.onV ts steps).isSome)]), (9, Value.tuple #[nodeO (R40.onV ts steps), vB ((R40.onV ts steps).isSome)]), (13, nodeV ((R40.onV ts steps).getD default)), (14, vB ((R40.onV ts steps).isSome)), (7, nodeV ((R40.onV ts steps).getD default)), (8, vB ((R40.onV ts steps).isSome)), (15, vB ((R40.onV ts steps).isSome)), (16, vB (!((R40.onV ts steps).isSome))), (17, vL endsA ends.length endsC), (18, vL endsA ends.length endsC), (19, vI ((ends.length : Nat) : Int)), (20, vL stepsA steps.length stepsC), (21, vI ((steps.length : Nat) : Int)), (22, vI ((min ends.length steps.length : Nat) : Int)), (23, vL A4 ((ends.take (min ends.length steps.length)).length) endsC)]) (L' := [Ent.blk b2 24 [vL endsA ends.length endsC], Ent.blk b1 23 [vL stepsA steps.length stepsC]]) ⟨rfl, rfl, rfl, rfl, rfl, rfl, rfl, rfl, rfl, rfl, rfl, rfl, rfl, rfl, rfl, rfl, rfl, rfl, rfl, rfl, rfl, rfl, (by rw [hA5, ← take_len lt_]; rfl), trivial⟩ (fun _ h => h) ?_
  refine o_ (st1 0 Ty.sz24 ?_)
  refine z_ (xk_ [4, 5, 6, 7] ?_)
  refine n_ (q_ (g_ (s_ mv_ (js_ (Value.func (.func 17) #[] #[pB b2 0, pB b1 0]) (x_makeFunc rfl rfl) ?_))))
  refine JO_call [b2, b1] [Ent.blk b2 24 [vL A4 ((ends.take (min ends.length steps.length)).length) endsC], Ent.blk b1 23 [vL stepsA steps.length stepsC]] [] rfl trivial (fun _ => x_call Ty.ca16 rfl) (fun _ h => h) (own_mem rfl) (fun w hS => f16_ok ((R40.onV ts steps).getD default) b2 b1 (ends.take (min ends.length steps.length)) A4 endsC steps stepsA stepsC w (hro6.on hS (own_mem rfl)) (stepsR.on hS (own_mem rfl)) hy_ (by simp only [List.length_take]; omega) (by exact hgx) (hS.give (own_in rfl))) ?_
  rintro _ _ ⟨rfl, rfl⟩
  refine s_ av_ (z_ (n_ (rt_ ?_)))
  exact c40e0_
end Go.Proofs.YtngjdmhpljmkpaaDoor

namespace Go.Proofs.YtngjdmhpljmkpaaDoor
open Go.GV
namespace R40
def bitC (ts : List Test) (steps : List Bytes) (k : Int) (e : StepEnd) (i : Nat) : Bool := (decide ((ts.getD i default).Step ≠ ([] : Bytes)) && decide (idx steps (ts.getD i default).Step = k)) && holds (ts.getD i default) e
def bitsN (ts : List Test) (steps : List Bytes) (k : Int) (e : StepEnd) : Nat → UInt32
  | 0 => 0
  | i + 1 => if bitC ts steps k e i = true then bitsN ts steps k e i ||| UInt32.ofBitVec ((1 : UInt32).toBitVec <<< (i : Nat)) else bitsN ts steps k e i
def bitsV (ts : List Test) (steps : List Bytes) (k : Int) (e : StepEnd) : UInt32 := if failed e = true then bitsN ts steps k e ts.length ||| 2147483648 else bitsN ts steps k e ts.length
def leafB (s : UInt32) (t : Test) (i : Int) : Bool := if t.Kind = 3 then decide (s &&& 2147483648 ≠ (0 : UInt32)) else decide (UInt32.ofBitVec (s.toBitVec >>> (i.toNat : Nat)) &&& 1 = (1 : UInt32))
def ixOk : Node → Prop
  | .leaf _ i => 0 ≤ i ∧ i < 32
  | .neg x => ixOk x
  | .pair _ x y => ixOk x ∧ ixOk y
theorem ix_of {x : Node} : ∀ {i : Nat}, at_ i x → i + (post x).length ≤ 32 → ixOk x := by
  induction x with
  | leaf t j => intro i h hl; have h : j = (i : Int) := h; simp [post] at hl; exact ⟨by omega, by omega⟩
  | neg x ih => intro i h hl; simp [post] at hl; exact ih h (by omega)
  | pair b x y ih1 ih2 => intro i h hl; simp [post] at hl; exact ⟨ih1 h.1 (by omega), ih2 h.2 (by omega)⟩
section
variable {ts : List Test} {steps : List Bytes} {ends l : List StepEnd} {k : Int} {e : StepEnd} {i : Nat}
theorem on_ix (h : (onV ts steps).isSome = true) : ixOk ((onV ts steps).getD default) := by
  obtain ⟨x, hx⟩ := Option.isSome_iff_exists.1 h
  rw [hx]
  by_cases h0 : ts = []
  · subst h0; cases hx; exact ⟨by decide, by decide⟩
  · obtain ⟨h1, _, h2, h3⟩ := (onV_some h0).1 hx
    exact ix_of h2 (by show 0 + (post x).length ≤ 32; rw [h3]; omega)
theorem post_forms {P : Bytes → Bool} (x : Node) : good P x → ∀ t ∈ post x, leafOk P t = true ∨ t = bare 4 ∨ t = bare 5 ∨ t = bare 6 := by
  induction x with
  | leaf t i => intro h u hu; rw [List.mem_singleton.1 hu]; exact .inl h
  | neg x ih =>
    intro h u hu
    rcases List.mem_append.1 hu with hu | hu
    · exact ih h u hu
    · rw [List.mem_singleton.1 hu]; exact .inr (.inl rfl)
  | pair b x y ih1 ih2 =>
    intro h u hu
    rcases List.mem_append.1 hu with hu | hu
    · exact ih1 h.1 u hu
    · rcases List.mem_append.1 hu with hu | hu
      · exact ih2 h.2 u hu
      · rw [List.mem_singleton.1 hu]; cases b <;> simp
theorem on_forms (h : (onV ts steps).isSome = true) (i : Nat) : ((ts.getD i default).Kind = 0 → 0 ≤ (ts.getD i default).Op ∧ (ts.getD i default).Op ≤ 5) ∧ 0 ≤ (ts.getD i default).N ∧ (ts.getD i default).N ≤ 4095 := by
  by_cases hi : i < ts.length
  · have h0 : ts ≠ [] := fun e => by rw [e] at hi; exact absurd hi (Nat.not_lt_zero _)
    obtain ⟨x, hx⟩ := Option.isSome_iff_exists.1 h
    obtain ⟨_, hg, _, hp⟩ := (onV_some h0).1 hx
    have hm := post_forms x hg (ts.getD i default) (by rw [hp]; exact R44.getD_mem hi)
    rcases hm with hm | hm | hm | hm
    · refine ⟨leaf_code hm, ?_⟩
      rcases leaf_any hm with h2 | h2 | h2
      · rw [h2]; exact ⟨by decide, by decide⟩
      · omega
      · omega
    · rw [hm]; exact ⟨fun h => (by cases h), by decide, by decide⟩
    · rw [hm]; exact ⟨fun h => (by cases h), by decide, by decide⟩
    · rw [hm]; exact ⟨fun h => (by cases h), by decide, by decide⟩
  · rw [List.getD_eq_getElem?_getD, List.getElem?_eq_none (by omega)]
    exact ⟨fun _ => ⟨by decide, by decide⟩, by decide, by decide⟩
theorem bits_y (h : bitC ts steps k e i = true) : bitsN ts steps k e i ||| UInt32.ofBitVec ((1 : UInt32).toBitVec <<< (i : Nat)) = bitsN ts steps k e (i + 1) := by rw [bitsN, if_pos h]
theorem bits_n (h : bitC ts steps k e i = false) : bitsN ts steps k e i = bitsN ts steps k e (i + 1) := by rw [bitsN, if_neg (by rw [h]; decide)]
theorem bits_t {s : UInt32} (hi : i = ts.length) (hs : s = bitsN ts steps k e i) (h : failed e = true) : s ||| 2147483648 = bitsV ts steps k e := by unfold bitsV; rw [if_pos h, hs, hi]
theorem bits_f {s : UInt32} (hi : i = ts.length) (hs : s = bitsN ts steps k e i) (h : failed e = false) : s = bitsV ts steps k e := by unfold bitsV; rw [if_neg (by rw [h]; decide), hs, hi]
theorem leafB_any {s : UInt32} {t : Test} {j : Int} (h : t.Kind = 3) : decide (s &&& 2147483648 ≠ (0 : UInt32)) = leafB s t j := by unfold leafB; rw [if_pos h]
theorem leafB_ix {s : UInt32} {t : Test} {j : Int} (h : ¬ t.Kind = 3) : decide (UInt32.ofBitVec (s.toBitVec >>> (j.toNat : Nat)) &&& 1 = (1 : UInt32)) = leafB s t j := by unfold leafB; rw [if_neg h]
end
theorem ends_at {ends : List StepEnd} {k j : Nat} (h : j < ((ends.drop k).take ((k + 1) - k)).length) : ((ends.drop k).take ((k + 1) - k)).getD j default = ends.getD k default := by
  rw [List.length_take] at h
  have : j = 0 := by omega
  subst this
  rw [List.getD_eq_getElem?_getD, List.getElem?_take, if_pos (by omega), List.getElem?_drop, List.getD_eq_getElem?_getD]; rfl
theorem ends_len {ends : List StepEnd} {k : Nat} (h : k < ends.length) : ((ends.drop k).take ((k + 1) - k)).length = 1 := by rw [List.length_take, List.length_drop]; omega
section
variable {α : Type} [DecidableEq α] {Q : α → Prop} {X : List α} {s : α}
theorem all_add (h : ∀ x ∈ X, Q x) (hs : Q s) : ∀ x ∈ addK X s, Q x := fun x hx => by
  rcases addK_mem.1 hx with h2 | rfl
  · exact h x h2
  · exact hs
theorem add_ne : addK X s ≠ [] := fun e => by have := (addK_mem (l := X) (s := s) (x := s)).2 (.inr rfl); rw [e] at this; cases this
omit [DecidableEq α] in
theorem all_erase {n : Nat} (h : ∀ x ∈ X, Q x) : ∀ x ∈ X.eraseIdx n, Q x := fun x hx => h x (List.mem_of_mem_eraseIdx hx)
theorem vals_one {v : Bool} {vs : List Bool} (hn : vs.Nodup) (ha : ∀ b ∈ vs, b = v) (hne : vs ≠ []) : vs = [v] := by
  match vs, hne with
  | [b], _ => rw [ha b (by simp)]
  | b :: c :: r, _ =>
    exfalso
    have h1 := ha b (by simp); have h2 := ha c (by simp)
    rw [List.nodup_cons] at hn
    exact hn.1 (by rw [h1, h2]; simp)
theorem vals_len {v : Bool} {vs : List Bool} (hn : vs.Nodup) (ha : ∀ b ∈ vs, b = v) (hne : vs ≠ []) : vs.length = 1 := by rw [vals_one hn ha hne]; rfl
theorem vals_has {v : Bool} {vs : List Bool} (hn : vs.Nodup) (ha : ∀ b ∈ vs, b = v) (hne : vs ≠ []) : hasK vs true = v := by rw [vals_one hn ha hne]; cases v <;> rfl
end
end R40
end Go.Proofs.YtngjdmhpljmkpaaDoor
