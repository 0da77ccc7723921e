/- contracts C27c -/
import Derived.Test.YtmbinhhlfbgiaaaGreatUpgradeUnique10
namespace Go.Proofs.YtmbinhhlfbgiaaaGreat
open Go.GV
set_option linter.unusedVariables false
set_option linter.unusedSimpArgs false
theorem c27c0_ {p : Prop} (h : p := by first | (simp [R27.isChange, R27.kindOk, hc]; done) | (simp [R27.isChange, R27.kindOk, hc, *]; done)) : p := h
set_option maxRecDepth 20000 in
theorem f72_ok (c : Change) (w : World) : Calls Tryz.prog 72 #[vG (Change.enc c)] w (Gives [] w fun v L => v = vB (R27.ck1 c) ∧ L = []) := by
 refine calls_J [] 11 Tryz.func72 rfl Tryz.ntmps72 [(0, _)] rfl rfl (Give.nil w) ?_
 refine q_ (g_ (o_ (bxG fun b1 => ?_)))
 refine s_ av_ (z_ (n_ (q_ (g_ (s_ (fA 2 Ty.fi27_2) (r_ (ld_ 0 Ty.sc9) (js_ (vB (decide (c.Key = ([] : Bytes)))) (x_eql_s rfl rfl) (s_ mv_ ?_))))))))
 refine and_ 3 (decide (c.Record = ([] : Bytes))) (fun g2 => ?_) ?_
 ·have g2r := g2
  have g2r := of_decide_eq_true g2r
  refine sg_ g2 (fA 3 Ty.fi27_3) (rg_ g2 (ld_ 0 Ty.sc9) (jg_ g2 (vB (decide (c.Record = ([] : Bytes)))) (x_eql_s rfl rfl) ?_))
  exact cr_
 refine s_ av_ (z_ (n_ (rt_ ?_)))
 exact p1 Tryz.results72 rfl ⟨(eB (by rfl)), rfl⟩
set_option maxRecDepth 20000 in
theorem f73_ok (c : Change) (b : Nat) (d : DataSet) (w : World) (hg : Give [b] w [Ent.blk b 23 (DataSet.enc d)]) : Calls Tryz.prog 73 #[vG (Change.enc c), pB b 0] w (Gives [b] w fun v L => v = vB (R27.ck2 d c) ∧ L = [Ent.blk b 23 (DataSet.enc d)]) := by
 refine calls_J [b] 15 Tryz.func73 rfl Tryz.ntmps73 [(0, _), (1, _)] rfl rfl hg ?_
 refine q_ (g_ (o_ (bxG fun b1 => ?_)))
 refine s_ av_ (z_ (n_ (q_ (g_ (s_ (fA 2 Ty.fi27_2) (r_ (ld_ 0 Ty.sc9) (s_ (x_len_s rfl Tryz.underlying9) (s_ (fA 6 Ty.fi23_6) (r_ (ld_ 1 Ty.sc3) (s_ (x_eql_i rfl rfl) (s_ mv_ ?_)))))))))))
 refine and_ 3 (decide (c.Record = ([] : Bytes))) (fun g2 => ?_) ?_
 ·have g2r := g2
  have g2r := of_decide_eq_true g2r
  refine sg_ g2 (fA 3 Ty.fi27_3) (rg_ g2 (ld_ 0 Ty.sc9) (jg_ g2 (vB (decide (c.Record = ([] : Bytes)))) (x_eql_s rfl rfl) ?_))
  exact cr_
 refine s_ av_ (z_ (n_ (rt_ ?_)))
 refine JX_rets [_] _ Tryz.results73 (fun w h => ⟨rfl, trivial⟩) rfl _ (fun _ h => h.keep [false, true] rfl) ⟨?_, ?_⟩
 ·have e_x0 : ((decide (((c.Key.length : Nat) : Int) = d.KeyLength)) && (decide (c.Record = ([] : Bytes))) : Bool) = (R27.ck2 d c) := by rfl
  exact congrArg (fun (x0 : Bool) => vB x0) e_x0
 ·rfl
set_option maxRecDepth 20000 in
theorem f74_ok (c : Change) (b : Nat) (d : DataSet) (w : World) (q0 : c.Record.length ≤ 1000000) (hg : Give [b] w [Ent.blk b 23 (DataSet.enc d)]) : Calls Tryz.prog 74 #[vG (Change.enc c), pB b 0] w (Gives [b] w fun v L => v = vB (R27.ck3 d c) ∧ L = [Ent.blk b 23 (DataSet.enc d)]) := by
 refine calls_J [b] 21 Tryz.func74 rfl Tryz.ntmps74 [(0, _), (1, _)] rfl rfl hg ?_
 refine q_ (g_ (o_ (bxG fun b1 => ?_)))
 refine s_ av_ (z_ (n_ (q_ (g_ (r_ (ldN 1 (DataSet.enc d) Ty.ag23 Ty.sz23) (s_ (fA 3 Ty.fi27_3) (r_ (ld_ 0 Ty.sc9) (c0 (cl_ Ty.ca75) (fun w hS => f75_ok d _ w hy_) (s_ mv_ (s_ (ex_ 0) (s_ (ex_ 1) (s_ av_ ?_))))))))))))
 refine s_ av_ (z_ (n_ (q_ (g_ (s_ mv_ (s_ (x_eql_i rfl rfl) (s_ mv_ ?_)))))))
 refine and_ 4 (decide ((R27.ofK d c.Record).1 = c.Key)) (fun g2 => ?_) ?_
 ·have g2r := g2
  have g2r := of_decide_eq_true g2r
  refine sg_ g2 mv_ (sg_ g2 (fA 2 Ty.fi27_2) (rg_ g2 (ld_ 0 Ty.sc9) (sg_ g2 (x_eql_s rfl rfl) ?_)))
  exact cr_
 refine s_ av_ (z_ (n_ (rt_ ?_)))
 refine JX_rets [_] _ Tryz.results74 (fun w h => ⟨rfl, trivial⟩) rfl _ (fun _ h => h.keep [false, true] rfl) ⟨?_, ?_⟩
 ·have e_x0 : ((decide ((R27.ofK d c.Record).2 = 0)) && (decide ((R27.ofK d c.Record).1 = c.Key)) : Bool) = (R27.ck3 d c) := by rfl
  exact congrArg (fun (x0 : Bool) => vB x0) e_x0
 ·rfl
set_option maxRecDepth 20000 in
theorem f76_ok (c : Change) (b : Nat) (d : DataSet) (w : World) (hg : Give [b] w [Ent.blk b 23 (DataSet.enc d)]) : Calls Tryz.prog 76 #[vG (Change.enc c), pB b 0] w (Gives [b] w fun v L => v = vB (R27.ck4 d c) ∧ L = [Ent.blk b 23 (DataSet.enc d)]) := by
 refine calls_J [b] 22 Tryz.func76 rfl Tryz.ntmps76 [(0, _), (1, _)] rfl rfl hg ?_
 refine q_ (g_ (o_ (bxG fun b1 => ?_)))
 refine s_ av_ (z_ (n_ (q_ (g_ (s_ (fA 2 Ty.fi27_2) (r_ (ld_ 0 Ty.sc9) (s_ (x_len_s rfl Tryz.underlying9) (s_ (x_eql_i rfl rfl) (s_ mv_ ?_)))))))))
 refine and_ 4 (decide ((1 : Int) ≤ ((c.Record.length : Nat) : Int))) (fun g2 => ?_) ?_
 ·have g2r := g2
  have g2r := of_decide_eq_true g2r
  refine sg_ g2 (fA 3 Ty.fi27_3) (rg_ g2 (ld_ 0 Ty.sc9) (sg_ g2 (x_len_s rfl Tryz.underlying9) (sg_ g2 (x_geq_i rfl rfl) ?_)))
  exact cr_
 refine s_ mv_ ?_
 refine and_ 6 (decide (((c.Record.length : Nat) : Int) ≤ d.Length)) (fun g3 => ?_) ?_
 ·have g3r := g3
  have ⟨g3r, h4⟩ := band_true g3r
  have g3r := of_decide_eq_true g3r
  have h4 := of_decide_eq_true h4
  refine sg_ g3 (fA 3 Ty.fi27_3) (rg_ g3 (ld_ 0 Ty.sc9) (sg_ g3 (x_len_s rfl Tryz.underlying9) (sg_ g3 (fA 3 Ty.fi23_3) (rg_ g3 (ld_ 1 Ty.sc3) (sg_ g3 (x_leq_i rfl rfl) ?_)))))
  exact cr_
 refine s_ av_ (z_ (n_ (rt_ ?_)))
 refine JX_rets [_] _ Tryz.results76 (fun w h => ⟨rfl, trivial⟩) rfl _ (fun _ h => h.keep [false, true] rfl) ⟨?_, ?_⟩
 ·have e_x0 : (((decide (((c.Key.length : Nat) : Int) = 8)) && (decide ((1 : Int) ≤ ((c.Record.length : Nat) : Int)))) && (decide (((c.Record.length : Nat) : Int) ≤ d.Length)) : Bool) = (R27.ck4 d c) := by rfl
  exact congrArg (fun (x0 : Bool) => vB x0) e_x0
 ·rfl
set_option maxRecDepth 20000 in
theorem f77_ok (c : Change) (w : World) (q0 : c.Key.length ≤ 1000000) : Calls Tryz.prog 77 #[vG (Change.enc c)] w (Gives [] w fun v L => v = vB (R27.ck5 c) ∧ L = []) := by
 refine calls_J [] 11 Tryz.func77 rfl Tryz.ntmps77 [(0, _)] rfl rfl (Give.nil w) ?_
 refine q_ (g_ (o_ (bxG fun b1 => ?_)))
 refine s_ av_ (z_ (n_ (q_ (g_ (s_ (fA 2 Ty.fi27_2) (r_ (ld_ 0 Ty.sc9) (c0 (cl_ Ty.ca78) (fun w hS => f78_ok _ w hy_) (s_ mv_ ?_))))))))
 refine and_ 3 (decide (c.Record = ([] : Bytes))) (fun g2 => ?_) ?_
 ·have g2r := g2
  refine sg_ g2 (fA 3 Ty.fi27_3) (rg_ g2 (ld_ 0 Ty.sc9) (jg_ g2 (vB (decide (c.Record = ([] : Bytes)))) (x_eql_s rfl rfl) ?_))
  exact cr_
 refine s_ av_ (z_ (n_ (rt_ ?_)))
 exact p1 Tryz.results77 rfl ⟨(eB (by rfl)), rfl⟩
set_option maxRecDepth 20000 in
theorem f79_ok (c : Change) (b : Nat) (d : DataSet) (w : World) (q0 : c.Key.length ≤ 1000000) (hg : Give [b] w [Ent.blk b 23 (DataSet.enc d)]) : Calls Tryz.prog 79 #[vG (Change.enc c), pB b 0] w (Gives [b] w fun v L => v = vB (R27.ck6 d c) ∧ L = [Ent.blk b 23 (DataSet.enc d)]) := by
 refine calls_J [b] 15 Tryz.func79 rfl Tryz.ntmps79 [(0, _), (1, _)] rfl rfl hg ?_
 refine q_ (g_ (o_ (bxG fun b1 => ?_)))
 refine s_ av_ (z_ (n_ (q_ (g_ (s_ (fA 2 Ty.fi27_2) (r_ (ld_ 0 Ty.sc9) (c0 (cl_ Ty.ca78) (fun w hS => f78_ok _ w hy_) (s_ mv_ ?_))))))))
 refine and_ 6 (decide (((c.Record.length : Nat) : Int) = d.Length)) (fun g2 => ?_) ?_
 ·have g2r := g2
  refine sg_ g2 (fA 3 Ty.fi27_3) (rg_ g2 (ld_ 0 Ty.sc9) (sg_ g2 (x_len_s rfl Tryz.underlying9) (sg_ g2 (fA 3 Ty.fi23_3) (rg_ g2 (ld_ 1 Ty.sc3) (sg_ g2 (x_eql_i rfl rfl) ?_)))))
  exact cr_
 refine s_ av_ (z_ (n_ (rt_ ?_)))
 refine JX_rets [_] _ Tryz.results79 (fun w h => ⟨rfl, trivial⟩) rfl _ (fun _ h => h.keep [false, true] rfl) ⟨?_, ?_⟩
 ·have e_x0 : ((R27.isSlot c.Key) && (decide (((c.Record.length : Nat) : Int) = d.Length)) : Bool) = (R27.ck6 d c) := by rfl
  exact congrArg (fun (x0 : Bool) => vB x0) e_x0
 ·rfl
set_option maxRecDepth 20000 in
theorem f47_ok3 (d : DataSet) (w : World) (q0 : d.Org = 3) : Calls Tryz.prog 52 #[vG (DataSet.enc d)] w (Gives [] w fun v L => ∃ M : Nat, ∃ b : Nat, v = Value.map (some M) ∧ L = [Ent.mp vI M [(3, Value.func (.func 72) #[] #[]), (1, Value.func (.func 73) #[] #[pB b 0]), (0, Value.func (.func 74) #[] #[pB b 0])], Ent.blk b 23 (DataSet.enc d)]) := by
 refine calls_J [] 23 Tryz.func52 rfl Tryz.ntmps52 [(0, _)] rfl rfl (Give.nil w) ?_
 refine q_ (g_ (o_ (bxG fun b1 => ?_)))
 refine s_ av_ (z_ (n_ (q_ (g_ (s_ av_ (z_ (n_ (q_ (q_ (g_ (s_ (fA 1 Ty.fi23_1) (r_ (ld_ 0 Ty.sc3) (z_ (n_ (k_ (q_ (g_ (s_ (x_eql_i rfl rfl) (s_ av_ (z_ (n_ ?_)))))))))))))))))))))
 refine ifd (fun h2w h2 => ?_) (fun h2w h2 => ?_)
 ·refine q_ (g_ (o_ (O_makeMap vI fun b3 => ?_)))
  refine s_ mv_ (o_ (O_insert 0 (f := vI) (k := 3) [(3, Value.func (.func 72) #[] #[])] [Ent.mp vI b3 [(3, Value.func (.func 72) #[] #[])], Ent.blk b1 23 (DataSet.enc d)] rfl rfl rfl rfl Tryz.underlying104 (mapK_i Tryz.underlying3) rfl rfl ?_))
  refine js_ (Value.func (.func 73) #[] #[pB b1 0]) (x_makeFunc rfl rfl) (o_ (O_insert 0 (f := vI) (k := 1) [(3, Value.func (.func 72) #[] #[]), (1, Value.func (.func 73) #[] #[pB b1 0])] [Ent.mp vI b3 [(3, Value.func (.func 72) #[] #[]), (1, Value.func (.func 73) #[] #[pB b1 0])], Ent.blk b1 23 (DataSet.enc d)] rfl rfl rfl rfl Tryz.underlying104 (mapK_i Tryz.underlying3) rfl rfl ?_))
  refine js_ (Value.func (.func 74) #[] #[pB b1 0]) (x_makeFunc rfl rfl) (o_ (O_insert 0 (f := vI) (k := 0) [(3, Value.func (.func 72) #[] #[]), (1, Value.func (.func 73) #[] #[pB b1 0]), (0, Value.func (.func 74) #[] #[pB b1 0])] [Ent.mp vI b3 [(3, Value.func (.func 72) #[] #[]), (1, Value.func (.func 73) #[] #[pB b1 0]), (0, Value.func (.func 74) #[] #[pB b1 0])], Ent.blk b1 23 (DataSet.enc d)] rfl rfl rfl rfl Tryz.underlying104 (mapK_i Tryz.underlying3) rfl rfl ?_))
  refine s_ mv_ (s_ av_ (z_ (n_ (rt_ (kq_ (nr_ ?_))))))
  refine JX_rets [_] _ Tryz.results52 (fun w h => ⟨rfl, trivial⟩) rfl _ (fun _ h => h) ⟨b3, b1, ?_, ?_⟩
  ·rfl
  ·rfl
 ·refine q_ (g_ (s_ (x_eql_i rfl rfl) (s_ av_ (z_ (n_ ?_)))))
  refine ifd (fun h4w h4 => ?_) (fun h4w h4 => ?_)
  ·refine q_ (g_ (o_ (O_makeMap vI fun b5 => ?_)))
   refine s_ mv_ (o_ (O_insert 0 (f := vI) (k := 3) [(3, Value.func (.func 72) #[] #[])] [Ent.mp vI b5 [(3, Value.func (.func 72) #[] #[])], Ent.blk b1 23 (DataSet.enc d)] rfl rfl rfl rfl Tryz.underlying104 (mapK_i Tryz.underlying3) rfl rfl ?_))
   refine js_ (Value.func (.func 76) #[] #[pB b1 0]) (x_makeFunc rfl rfl) (o_ (O_insert 0 (f := vI) (k := 2) [(3, Value.func (.func 72) #[] #[]), (2, Value.func (.func 76) #[] #[pB b1 0])] [Ent.mp vI b5 [(3, Value.func (.func 72) #[] #[]), (2, Value.func (.func 76) #[] #[pB b1 0])], Ent.blk b1 23 (DataSet.enc d)] rfl rfl rfl rfl Tryz.underlying104 (mapK_i Tryz.underlying3) rfl rfl ?_))
   refine s_ mv_ (s_ av_ (z_ (n_ (rt_ (kq_ (nr_ ?_))))))
   refine JX_rets [_] _ Tryz.results52 (fun w h => ⟨rfl, trivial⟩) rfl _ (fun _ h => h) ⟨b5, b1, ?_, ?_⟩
   ·rfl
   ·have e_y0 : ([(3, Value.func (.func 72) #[] #[]), (2, Value.func (.func 76) #[] #[pB b1 0])] : List (Int × Value)) = [(3, Value.func (.func 72) #[] #[]), (1, Value.func (.func 73) #[] #[pB b1 0]), (0, Value.func (.func 74) #[] #[pB b1 0])] := by
     first | rfl | omega | (simp_all; done) | (simp_all; omega)
    have e_all := (congrArg (fun (y0 : List (Int × Value)) => [Ent.mp vI b5 y0, Ent.blk b1 23 (DataSet.enc d)]) e_y0)
    exact e_all
  ·refine sk_ (kx_ (n_ (q_ (g_ (o_ (O_makeMap vI fun b6 => ?_))))))
   refine s_ mv_ (o_ (O_insert 0 (f := vI) (k := 3) [(3, Value.func (.func 72) #[] #[])] [Ent.mp vI b6 [(3, Value.func (.func 72) #[] #[])], Ent.blk b1 23 (DataSet.enc d)] rfl rfl rfl rfl Tryz.underlying104 (mapK_i Tryz.underlying3) rfl rfl ?_))
   refine o_ (O_insert 0 (f := vI) (k := 1) [(3, Value.func (.func 72) #[] #[]), (1, Value.func (.func 77) #[] #[])] [Ent.mp vI b6 [(3, Value.func (.func 72) #[] #[]), (1, Value.func (.func 77) #[] #[])], Ent.blk b1 23 (DataSet.enc d)] rfl rfl rfl rfl Tryz.underlying104 (mapK_i Tryz.underlying3) rfl rfl ?_)
   refine js_ (Value.func (.func 79) #[] #[pB b1 0]) (x_makeFunc rfl rfl) (o_ (O_insert 0 (f := vI) (k := 0) [(3, Value.func (.func 72) #[] #[]), (1, Value.func (.func 77) #[] #[]), (0, Value.func (.func 79) #[] #[pB b1 0])] [Ent.mp vI b6 [(3, Value.func (.func 72) #[] #[]), (1, Value.func (.func 77) #[] #[]), (0, Value.func (.func 79) #[] #[pB b1 0])], Ent.blk b1 23 (DataSet.enc d)] rfl rfl rfl rfl Tryz.underlying104 (mapK_i Tryz.underlying3) rfl rfl ?_))
   refine s_ mv_ (s_ av_ (z_ (n_ (rt_ ?_))))
   refine JX_rets [_] _ Tryz.results52 (fun w h => ⟨rfl, trivial⟩) rfl _ (fun _ h => h) ⟨b6, b1, ?_, ?_⟩
   ·rfl
   ·have e_y0 : ([(3, Value.func (.func 72) #[] #[]), (1, Value.func (.func 77) #[] #[]), (0, Value.func (.func 79) #[] #[pB b1 0])] : List (Int × Value)) = [(3, Value.func (.func 72) #[] #[]), (1, Value.func (.func 73) #[] #[pB b1 0]), (0, Value.func (.func 74) #[] #[pB b1 0])] := by
     first | rfl | omega | (simp_all; done) | (simp_all; omega)
    have e_all := (congrArg (fun (y0 : List (Int × Value)) => [Ent.mp vI b6 y0, Ent.blk b1 23 (DataSet.enc d)]) e_y0)
    exact e_all
set_option maxRecDepth 20000 in
theorem f47_ok1 (d : DataSet) (w : World) (q0 : d.Org = 1) : Calls Tryz.prog 52 #[vG (DataSet.enc d)] w (Gives [] w fun v L => ∃ M : Nat, ∃ b : Nat, v = Value.map (some M) ∧ L = [Ent.mp vI M [(3, Value.func (.func 72) #[] #[]), (2, Value.func (.func 76) #[] #[pB b 0])], Ent.blk b 23 (DataSet.enc d)]) := by
 refine calls_J [] 23 Tryz.func52 rfl Tryz.ntmps52 [(0, _)] rfl rfl (Give.nil w) ?_
 refine q_ (g_ (o_ (bxG fun b1 => ?_)))
 refine s_ av_ (z_ (n_ (q_ (g_ (s_ av_ (z_ (n_ (q_ (q_ (g_ (s_ (fA 1 Ty.fi23_1) (r_ (ld_ 0 Ty.sc3) (z_ (n_ (k_ (q_ (g_ (s_ (x_eql_i rfl rfl) (s_ av_ (z_ (n_ ?_)))))))))))))))))))))
 refine ifd (fun h2w h2 => ?_) (fun h2w h2 => ?_)
 ·refine q_ (g_ (o_ (O_makeMap vI fun b3 => ?_)))
  refine s_ mv_ (o_ (O_insert 0 (f := vI) (k := 3) [(3, Value.func (.func 72) #[] #[])] [Ent.mp vI b3 [(3, Value.func (.func 72) #[] #[])], Ent.blk b1 23 (DataSet.enc d)] rfl rfl rfl rfl Tryz.underlying104 (mapK_i Tryz.underlying3) rfl rfl ?_))
  refine js_ (Value.func (.func 73) #[] #[pB b1 0]) (x_makeFunc rfl rfl) (o_ (O_insert 0 (f := vI) (k := 1) [(3, Value.func (.func 72) #[] #[]), (1, Value.func (.func 73) #[] #[pB b1 0])] [Ent.mp vI b3 [(3, Value.func (.func 72) #[] #[]), (1, Value.func (.func 73) #[] #[pB b1 0])], Ent.blk b1 23 (DataSet.enc d)] rfl rfl rfl rfl Tryz.underlying104 (mapK_i Tryz.underlying3) rfl rfl ?_))
  refine js_ (Value.func (.func 74) #[] #[pB b1 0]) (x_makeFunc rfl rfl) (o_ (O_insert 0 (f := vI) (k := 0) [(3, Value.func (.func 72) #[] #[]), (1, Value.func (.func 73) #[] #[pB b1 0]), (0, Value.func (.func 74) #[] #[pB b1 0])] [Ent.mp vI b3 [(3, Value.func (.func 72) #[] #[]), (1, Value.func (.func 73) #[] #[pB b1 0]), (0, Value.func (.func 74) #[] #[pB b1 0])], Ent.blk b1 23 (DataSet.enc d)] rfl rfl rfl rfl Tryz.underlying104 (mapK_i Tryz.underlying3) rfl rfl ?_))
  refine s_ mv_ (s_ av_ (z_ (n_ (rt_ (kq_ (nr_ ?_))))))
  refine JX_rets [_] _ Tryz.results52 (fun w h => ⟨rfl, trivial⟩) rfl _ (fun _ h => h) ⟨b3, b1, ?_, ?_⟩
  ·rfl
  ·have e_y0 : ([(3, Value.func (.func 72) #[] #[]), (1, Value.func (.func 73) #[] #[pB b1 0]), (0, Value.func (.func 74) #[] #[pB b1 0])] : List (Int × Value)) = [(3, Value.func (.func 72) #[] #[]), (2, Value.func (.func 76) #[] #[pB b1 0])] := by
    first | rfl | omega | (simp_all; done) | (simp_all; omega)
   have e_all := (congrArg (fun (y0 : List (Int × Value)) => [Ent.mp vI b3 y0, Ent.blk b1 23 (DataSet.enc d)]) e_y0)
   exact e_all
 ·refine q_ (g_ (s_ (x_eql_i rfl rfl) (s_ av_ (z_ (n_ ?_)))))
  refine ifd (fun h4w h4 => ?_) (fun h4w h4 => ?_)
  ·refine q_ (g_ (o_ (O_makeMap vI fun b5 => ?_)))
   refine s_ mv_ (o_ (O_insert 0 (f := vI) (k := 3) [(3, Value.func (.func 72) #[] #[])] [Ent.mp vI b5 [(3, Value.func (.func 72) #[] #[])], Ent.blk b1 23 (DataSet.enc d)] rfl rfl rfl rfl Tryz.underlying104 (mapK_i Tryz.underlying3) rfl rfl ?_))
   refine js_ (Value.func (.func 76) #[] #[pB b1 0]) (x_makeFunc rfl rfl) (o_ (O_insert 0 (f := vI) (k := 2) [(3, Value.func (.func 72) #[] #[]), (2, Value.func (.func 76) #[] #[pB b1 0])] [Ent.mp vI b5 [(3, Value.func (.func 72) #[] #[]), (2, Value.func (.func 76) #[] #[pB b1 0])], Ent.blk b1 23 (DataSet.enc d)] rfl rfl rfl rfl Tryz.underlying104 (mapK_i Tryz.underlying3) rfl rfl ?_))
   refine s_ mv_ (s_ av_ (z_ (n_ (rt_ (kq_ (nr_ ?_))))))
   refine JX_rets [_] _ Tryz.results52 (fun w h => ⟨rfl, trivial⟩) rfl _ (fun _ h => h) ⟨b5, b1, ?_, ?_⟩
   ·rfl
   ·rfl
  ·refine sk_ (kx_ (n_ (q_ (g_ (o_ (O_makeMap vI fun b6 => ?_))))))
   refine s_ mv_ (o_ (O_insert 0 (f := vI) (k := 3) [(3, Value.func (.func 72) #[] #[])] [Ent.mp vI b6 [(3, Value.func (.func 72) #[] #[])], Ent.blk b1 23 (DataSet.enc d)] rfl rfl rfl rfl Tryz.underlying104 (mapK_i Tryz.underlying3) rfl rfl ?_))
   refine o_ (O_insert 0 (f := vI) (k := 1) [(3, Value.func (.func 72) #[] #[]), (1, Value.func (.func 77) #[] #[])] [Ent.mp vI b6 [(3, Value.func (.func 72) #[] #[]), (1, Value.func (.func 77) #[] #[])], Ent.blk b1 23 (DataSet.enc d)] rfl rfl rfl rfl Tryz.underlying104 (mapK_i Tryz.underlying3) rfl rfl ?_)
   refine js_ (Value.func (.func 79) #[] #[pB b1 0]) (x_makeFunc rfl rfl) (o_ (O_insert 0 (f := vI) (k := 0) [(3, Value.func (.func 72) #[] #[]), (1, Value.func (.func 77) #[] #[]), (0, Value.func (.func 79) #[] #[pB b1 0])] [Ent.mp vI b6 [(3, Value.func (.func 72) #[] #[]), (1, Value.func (.func 77) #[] #[]), (0, Value.func (.func 79) #[] #[pB b1 0])], Ent.blk b1 23 (DataSet.enc d)] rfl rfl rfl rfl Tryz.underlying104 (mapK_i Tryz.underlying3) rfl rfl ?_))
   refine s_ mv_ (s_ av_ (z_ (n_ (rt_ ?_))))
   refine JX_rets [_] _ Tryz.results52 (fun w h => ⟨rfl, trivial⟩) rfl _ (fun _ h => h) ⟨b6, b1, ?_, ?_⟩
   ·rfl
   ·have e_y0 : ([(3, Value.func (.func 72) #[] #[]), (1, Value.func (.func 77) #[] #[]), (0, Value.func (.func 79) #[] #[pB b1 0])] : List (Int × Value)) = [(3, Value.func (.func 72) #[] #[]), (2, Value.func (.func 76) #[] #[pB b1 0])] := by
     first | rfl | omega | (simp_all; done) | (simp_all; omega)
    have e_all := (congrArg (fun (y0 : List (Int × Value)) => [Ent.mp vI b6 y0, Ent.blk b1 23 (DataSet.enc d)]) e_y0)
    exact e_all
set_option maxRecDepth 20000 in
theorem f47_ok2 (d : DataSet) (w : World) (q0 : ¬ d.Org = 3) (q1 : ¬ d.Org = 1) : Calls Tryz.prog 52 #[vG (DataSet.enc d)] w (Gives [] w fun v L => ∃ M : Nat, ∃ b : Nat, v = Value.map (some M) ∧ L = [Ent.mp vI M [(3, Value.func (.func 72) #[] #[]), (1, Value.func (.func 77) #[] #[]), (0, Value.func (.func 79) #[] #[pB b 0])], Ent.blk b 23 (DataSet.enc d)]) := by
 refine calls_J [] 23 Tryz.func52 rfl Tryz.ntmps52 [(0, _)] rfl rfl (Give.nil w) ?_
 refine q_ (g_ (o_ (bxG fun b1 => ?_)))
 refine s_ av_ (z_ (n_ (q_ (g_ (s_ av_ (z_ (n_ (q_ (q_ (g_ (s_ (fA 1 Ty.fi23_1) (r_ (ld_ 0 Ty.sc3) (z_ (n_ (k_ (q_ (g_ (s_ (x_eql_i rfl rfl) (s_ av_ (z_ (n_ ?_)))))))))))))))))))))
 refine ifd (fun h2w h2 => ?_) (fun h2w h2 => ?_)
 ·refine q_ (g_ (o_ (O_makeMap vI fun b3 => ?_)))
  refine s_ mv_ (o_ (O_insert 0 (f := vI) (k := 3) [(3, Value.func (.func 72) #[] #[])] [Ent.mp vI b3 [(3, Value.func (.func 72) #[] #[])], Ent.blk b1 23 (DataSet.enc d)] rfl rfl rfl rfl Tryz.underlying104 (mapK_i Tryz.underlying3) rfl rfl ?_))
  refine js_ (Value.func (.func 73) #[] #[pB b1 0]) (x_makeFunc rfl rfl) (o_ (O_insert 0 (f := vI) (k := 1) [(3, Value.func (.func 72) #[] #[]), (1, Value.func (.func 73) #[] #[pB b1 0])] [Ent.mp vI b3 [(3, Value.func (.func 72) #[] #[]), (1, Value.func (.func 73) #[] #[pB b1 0])], Ent.blk b1 23 (DataSet.enc d)] rfl rfl rfl rfl Tryz.underlying104 (mapK_i Tryz.underlying3) rfl rfl ?_))
  refine js_ (Value.func (.func 74) #[] #[pB b1 0]) (x_makeFunc rfl rfl) (o_ (O_insert 0 (f := vI) (k := 0) [(3, Value.func (.func 72) #[] #[]), (1, Value.func (.func 73) #[] #[pB b1 0]), (0, Value.func (.func 74) #[] #[pB b1 0])] [Ent.mp vI b3 [(3, Value.func (.func 72) #[] #[]), (1, Value.func (.func 73) #[] #[pB b1 0]), (0, Value.func (.func 74) #[] #[pB b1 0])], Ent.blk b1 23 (DataSet.enc d)] rfl rfl rfl rfl Tryz.underlying104 (mapK_i Tryz.underlying3) rfl rfl ?_))
  refine s_ mv_ (s_ av_ (z_ (n_ (rt_ (kq_ (nr_ ?_))))))
  refine JX_rets [_] _ Tryz.results52 (fun w h => ⟨rfl, trivial⟩) rfl _ (fun _ h => h) ⟨b3, b1, ?_, ?_⟩
  ·rfl
  ·have e_y0 : ([(3, Value.func (.func 72) #[] #[]), (1, Value.func (.func 73) #[] #[pB b1 0]), (0, Value.func (.func 74) #[] #[pB b1 0])] : List (Int × Value)) = [(3, Value.func (.func 72) #[] #[]), (1, Value.func (.func 77) #[] #[]), (0, Value.func (.func 79) #[] #[pB b1 0])] := by
    first | rfl | omega | (simp_all; done) | (simp_all; omega)
   have e_all := (congrArg (fun (y0 : List (Int × Value)) => [Ent.mp vI b3 y0, Ent.blk b1 23 (DataSet.enc d)]) e_y0)
   exact e_all
 ·refine q_ (g_ (s_ (x_eql_i rfl rfl) (s_ av_ (z_ (n_ ?_)))))
  refine ifd (fun h4w h4 => ?_) (fun h4w h4 => ?_)
  ·refine q_ (g_ (o_ (O_makeMap vI fun b5 => ?_)))
   refine s_ mv_ (o_ (O_insert 0 (f := vI) (k := 3) [(3, Value.func (.func 72) #[] #[])] [Ent.mp vI b5 [(3, Value.func (.func 72) #[] #[])], Ent.blk b1 23 (DataSet.enc d)] rfl rfl rfl rfl Tryz.underlying104 (mapK_i Tryz.underlying3) rfl rfl ?_))
   refine js_ (Value.func (.func 76) #[] #[pB b1 0]) (x_makeFunc rfl rfl) (o_ (O_insert 0 (f := vI) (k := 2) [(3, Value.func (.func 72) #[] #[]), (2, Value.func (.func 76) #[] #[pB b1 0])] [Ent.mp vI b5 [(3, Value.func (.func 72) #[] #[]), (2, Value.func (.func 76) #[] #[pB b1 0])], Ent.blk b1 23 (DataSet.enc d)] rfl rfl rfl rfl Tryz.underlying104 (mapK_i Tryz.underlying3) rfl rfl ?_))
   refine s_ mv_ (s_ av_ (z_ (n_ (rt_ (kq_ (nr_ ?_))))))
   refine JX_rets [_] _ Tryz.results52 (fun w h => ⟨rfl, trivial⟩) rfl _ (fun _ h => h) ⟨b5, b1, ?_, ?_⟩
   ·rfl
   ·have e_y0 : ([(3, Value.func (.func 72) #[] #[]), (2, Value.func (.func 76) #[] #[pB b1 0])] : List (Int × Value)) = [(3, Value.func (.func 72) #[] #[]), (1, Value.func (.func 77) #[] #[]), (0, Value.func (.func 79) #[] #[pB b1 0])] := by
     first | rfl | omega | (simp_all; done) | (simp_all; omega)
    have e_all := (congrArg (fun (y0 : List (Int × Value)) => [Ent.mp vI b5 y0, Ent.blk b1 23 (DataSet.enc d)]) e_y0)
    exact e_all
  ·refine sk_ (kx_ (n_ (q_ (g_ (o_ (O_makeMap vI fun b6 => ?_))))))
   refine s_ mv_ (o_ (O_insert 0 (f := vI) (k := 3) [(3, Value.func (.func 72) #[] #[])] [Ent.mp vI b6 [(3, Value.func (.func 72) #[] #[])], Ent.blk b1 23 (DataSet.enc d)] rfl rfl rfl rfl Tryz.underlying104 (mapK_i Tryz.underlying3) rfl rfl ?_))
   refine o_ (O_insert 0 (f := vI) (k := 1) [(3, Value.func (.func 72) #[] #[]), (1, Value.func (.func 77) #[] #[])] [Ent.mp vI b6 [(3, Value.func (.func 72) #[] #[]), (1, Value.func (.func 77) #[] #[])], Ent.blk b1 23 (DataSet.enc d)] rfl rfl rfl rfl Tryz.underlying104 (mapK_i Tryz.underlying3) rfl rfl ?_)
   refine js_ (Value.func (.func 79) #[] #[pB b1 0]) (x_makeFunc rfl rfl) (o_ (O_insert 0 (f := vI) (k := 0) [(3, Value.func (.func 72) #[] #[]), (1, Value.func (.func 77) #[] #[]), (0, Value.func (.func 79) #[] #[pB b1 0])] [Ent.mp vI b6 [(3, Value.func (.func 72) #[] #[]), (1, Value.func (.func 77) #[] #[]), (0, Value.func (.func 79) #[] #[pB b1 0])], Ent.blk b1 23 (DataSet.enc d)] rfl rfl rfl rfl Tryz.underlying104 (mapK_i Tryz.underlying3) rfl rfl ?_))
   refine s_ mv_ (s_ av_ (z_ (n_ (rt_ ?_))))
   refine JX_rets [_] _ Tryz.results52 (fun w h => ⟨rfl, trivial⟩) rfl _ (fun _ h => h) ⟨b6, b1, ?_, ?_⟩
   ·rfl
   ·rfl
set_option maxRecDepth 20000 in
theorem f25_ok (d : DataSet) (c : Change) (w : World) (q0 : R16.valid d = true) (q1 : c.Record.length ≤ 1000000) (q2 : c.Key.length ≤ 1000000) : Calls Tryz.prog 25 #[vG (DataSet.enc d), vG (Change.enc c)] w (Gives [] w fun v L => v = vB (R27.isChange d c) ∧ L = []) := by
 refine calls_J [] 33 Tryz.func25 rfl Tryz.ntmps25 [(0, _), (1, _)] rfl rfl (Give.nil w) ?_
 rcases (R27.kinds d c q0) with hc | hc | hc | hc | hc | hc | hc | hc | hc | hc | hc
 ·refine q_ (g_ (o_ (bxG fun b1 => ?_)))
  refine o_ (bxG fun b2 => ?_)
  refine s_ av_ (z_ (n_ (q_ ?_)))
  refine drB [] 10 Ty.mixed ?_
  refine jq_ 0 rfl (ldN 1 (DataSet.enc d) Ty.ag23 Ty.sz23) (jp_ 2 rfl (fA 0 Ty.fi27_0) (jq_ 3 rfl (ld_ 0 Ty.sc3) (j1_ 1 ?_ gm_)))
  refine jc1_ rfl (cl_ Ty.ca52) (fun w hS => f47_ok3 d w hy_) ?_
  rintro _ _ ⟨M3, b4, rfl, rfl⟩
  refine j1_ 4 ?_ (fun _ h => ⟨h.keep [false, false, true, true] rfl, fun _ => h.keep [false, false, true, true] rfl⟩)
  refine JI_read (Value.tuple #[Value.func (.func 72) #[] #[], vB true]) rfl rfl trivial (x_lookup_ok 0 (f := vI) (k := c.Kind) rfl rfl rfl Tryz.underlying104 (mapK_i Tryz.underlying3) Ty.ze102 (lk_hit (by omega))) ?_
  refine jp_ 5 rfl mv_ (jp_ 6 rfl (ex_ 0) (jp_ 7 rfl (ex_ 1) (jp_ 8 rfl av_ (jp_ 9 rfl av_ ?_))))
  refine JA_done (by kernel_rfl) (fun _ h => ⟨h.keep [false, false, true, true] rfl, fun _ => h.keep [false, false, true, true] rfl⟩) ?_
  refine n_ (q_ (g_ (s_ mv_ (s_ mv_ (sg_ rfl (fA 1 Ty.fi27_1) (rg_ rfl (ld_ 2 Ty.sc3) (sg_ rfl (fA 0 Ty.fi23_0) (rg_ rfl (ld_ 3 Ty.sc3) (sg_ rfl (x_eql_i rfl rfl) (jr_ (vB (decide (c.Id = d.Id))) (s_ mv_ ?_)))))))))))
  refine and_ 3 (decide (c.Volume = ([] : Bytes))) (fun g5 => ?_) ?_
  ·have g5r := g5
   have g5r := of_decide_eq_true g5r
   refine sg_ g5 (fA 4 Ty.fi27_4) (rg_ g5 (ld_ 2 Ty.sc9) (jg_ g5 (vB (decide (c.Volume = ([] : Bytes)))) (x_eql_s rfl rfl) ?_))
   exact cr_
  refine s_ mv_ ?_
  refine and_ 3 (R27.ck1 c) (fun g6 => ?_) ?_
  ·have g6r := g6
   have ⟨g6r, h7⟩ := band_true g6r
   have g6r := of_decide_eq_true g6r
   have h7 := of_decide_eq_true h7
   refine sg_ g6 mv_ (rg_ g6 (ldN 2 (Change.enc c) Ty.ag27 Ty.sz27) (c0g g6 (x_callv (first := []) (caps := []) rfl Ty.ca72 rfl) (fun w hS => f72_ok c w) ?_))
   exact cr_
  refine s_ av_ (z_ (xk_ [4] ?_))
  refine n_ (rt_ ?_)
  exact p1 Tryz.results25 rfl ⟨(eB c27c0_), rfl⟩
 ·refine q_ (g_ (o_ (bxG fun b8 => ?_)))
  refine o_ (bxG fun b9 => ?_)
  refine s_ av_ (z_ (n_ (q_ ?_)))
  refine drB [] 10 Ty.mixed ?_
  refine jq_ 0 rfl (ldN 1 (DataSet.enc d) Ty.ag23 Ty.sz23) (jp_ 2 rfl (fA 0 Ty.fi27_0) (jq_ 3 rfl (ld_ 0 Ty.sc3) (j1_ 1 ?_ gm_)))
  refine jc1_ rfl (cl_ Ty.ca52) (fun w hS => f47_ok3 d w hy_) ?_
  rintro _ _ ⟨M10, b11, rfl, rfl⟩
  refine j1_ 4 ?_ (fun _ h => ⟨h.keep [false, false, true, true] rfl, fun _ => h.keep [false, false, true, true] rfl⟩)
  refine JI_read (Value.tuple #[Value.func (.func 73) #[] #[pB b11 0], vB true]) rfl rfl trivial (x_lookup_ok 0 (f := vI) (k := c.Kind) rfl rfl rfl Tryz.underlying104 (mapK_i Tryz.underlying3) Ty.ze102 (lk_ne (by omega) (lk_hit (by omega)))) ?_
  refine jp_ 5 rfl mv_ (jp_ 6 rfl (ex_ 0) (jp_ 7 rfl (ex_ 1) (jp_ 8 rfl av_ (jp_ 9 rfl av_ ?_))))
  refine JA_done (by kernel_rfl) (fun _ h => ⟨h.keep [false, false, true, true] rfl, fun _ => h.keep [false, false, true, true] rfl⟩) ?_
  refine n_ (q_ (g_ (s_ mv_ (s_ mv_ (sg_ rfl (fA 1 Ty.fi27_1) (rg_ rfl (ld_ 2 Ty.sc3) (sg_ rfl (fA 0 Ty.fi23_0) (rg_ rfl (ld_ 3 Ty.sc3) (sg_ rfl (x_eql_i rfl rfl) (jr_ (vB (decide (c.Id = d.Id))) (s_ mv_ ?_)))))))))))
  refine and_ 3 (decide (c.Volume = ([] : Bytes))) (fun g12 => ?_) ?_
  ·have g12r := g12
   have g12r := of_decide_eq_true g12r
   refine sg_ g12 (fA 4 Ty.fi27_4) (rg_ g12 (ld_ 2 Ty.sc9) (jg_ g12 (vB (decide (c.Volume = ([] : Bytes)))) (x_eql_s rfl rfl) ?_))
   exact cr_
  refine s_ mv_ ?_
  refine JO_cut 4 (fun z => z = (((decide (c.Id = d.Id)) && (decide (c.Volume = ([] : Bytes)))) && (R27.ck2 d c))) (fun z => [(4, vB false), (32, vB z)]) (fun _ => [Ent.blk b11 23 (DataSet.enc d), Ent.mp vI M10 [(3, Value.func (.func 72) #[] #[]), (1, Value.func (.func 73) #[] #[pB b11 0]), (0, Value.func (.func 74) #[] #[pB b11 0])], Ent.blk b9 27 (Change.enc c), Ent.blk b8 23 (DataSet.enc d)]) ?_ ?_
  ·rcases Bool.eq_false_or_eq_true ((decide (c.Id = d.Id)) && (decide (c.Volume = ([] : Bytes)))) with g14 | g14
   ·have g14r := g14
    have ⟨g14r, h15⟩ := band_true g14r
    have g14r := of_decide_eq_true g14r
    have h15 := of_decide_eq_true h15
    refine sg_ g14 mv_ (rg_ g14 (ldN 2 (Change.enc c) Ty.ag27 Ty.sz27) ?_)
    refine JO_call [b11] [Ent.blk b11 23 (DataSet.enc d)] [Ent.mp vI M10 [(3, Value.func (.func 72) #[] #[]), (1, Value.func (.func 73) #[] #[pB b11 0]), (0, Value.func (.func 74) #[] #[pB b11 0])], Ent.blk b9 27 (Change.enc c), Ent.blk b8 23 (DataSet.enc d)] rfl ⟨_, rfl, g14⟩ (fun _ => x_callv (first := []) (caps := [pB b11 0]) rfl Ty.ca73 rfl) (fun _ h => ((((h.front 3 _ rfl).front 3 _ rfl).front 2 _ rfl).front 3 _ rfl).keep [true, true, true, true] rfl) (own_mem rfl) (fun w hS => f73_ok c b11 d w  (hS.give (own_in rfl))) ?_
    rintro _ _ ⟨rfl, rfl⟩
    refine js_ (vB (R27.ck2 d c)) (x_pick_t rfl g14 rfl) ?_
    refine z_ (JX_cut (R27.ck2 d c) (by rw [g14]; simp) ⟨rfl, rfl, trivial⟩ (fun _ h => h))
   ·have g14r := g14
    simp only [Bool.and_eq_true, Bool.or_eq_true, Bool.and_eq_false_iff, Bool.or_eq_false_iff, Bool.not_eq_true', Bool.not_eq_false', decide_eq_true_eq, decide_eq_false_iff_not] at g14r
    refine sh_ g14 (sh_ g14 (sh_ g14 (js_ (vB false) (x_pick_f rfl g14 rfl) ?_)))
    refine z_ (JX_cut (false) (by rw [g14]; simp) ⟨rfl, rfl, trivial⟩ (fun _ h => ((((h.front 3 _ rfl).front 3 _ rfl).front 2 _ rfl).front 3 _ rfl).keep [true, true, true, true] rfl))
  rintro z13 rfl
  refine s_ av_ (z_ (n_ (rt_ ?_)))
  exact p1 Tryz.results25 rfl ⟨(eB c27c0_), rfl⟩
 ·refine q_ (g_ (o_ (bxG fun b16 => ?_)))
  refine o_ (bxG fun b17 => ?_)
  refine s_ av_ (z_ (n_ (q_ ?_)))
  refine drB [] 10 Ty.mixed ?_
  refine jq_ 0 rfl (ldN 1 (DataSet.enc d) Ty.ag23 Ty.sz23) (jp_ 2 rfl (fA 0 Ty.fi27_0) (jq_ 3 rfl (ld_ 0 Ty.sc3) (j1_ 1 ?_ gm_)))
  refine jc1_ rfl (cl_ Ty.ca52) (fun w hS => f47_ok3 d w hy_) ?_
  rintro _ _ ⟨M18, b19, rfl, rfl⟩
  refine j1_ 4 ?_ (fun _ h => ⟨h.keep [false, false, true, true] rfl, fun _ => h.keep [false, false, true, true] rfl⟩)
  refine JI_read (Value.tuple #[Value.func (.func 74) #[] #[pB b19 0], vB true]) rfl rfl trivial (x_lookup_ok 0 (f := vI) (k := c.Kind) rfl rfl rfl Tryz.underlying104 (mapK_i Tryz.underlying3) Ty.ze102 (lk_ne (by omega) (lk_ne (by omega) (lk_hit (by omega))))) ?_
  refine jp_ 5 rfl mv_ (jp_ 6 rfl (ex_ 0) (jp_ 7 rfl (ex_ 1) (jp_ 8 rfl av_ (jp_ 9 rfl av_ ?_))))
  refine JA_done (by kernel_rfl) (fun _ h => ⟨h.keep [false, false, true, true] rfl, fun _ => h.keep [false, false, true, true] rfl⟩) ?_
  refine n_ (q_ (g_ (s_ mv_ (s_ mv_ (sg_ rfl (fA 1 Ty.fi27_1) (rg_ rfl (ld_ 2 Ty.sc3) (sg_ rfl (fA 0 Ty.fi23_0) (rg_ rfl (ld_ 3 Ty.sc3) (sg_ rfl (x_eql_i rfl rfl) (jr_ (vB (decide (c.Id = d.Id))) (s_ mv_ ?_)))))))))))
  refine and_ 3 (decide (c.Volume = ([] : Bytes))) (fun g20 => ?_) ?_
  ·have g20r := g20
   have g20r := of_decide_eq_true g20r
   refine sg_ g20 (fA 4 Ty.fi27_4) (rg_ g20 (ld_ 2 Ty.sc9) (jg_ g20 (vB (decide (c.Volume = ([] : Bytes)))) (x_eql_s rfl rfl) ?_))
   exact cr_
  refine s_ mv_ ?_
  refine JO_cut 4 (fun z => z = (((decide (c.Id = d.Id)) && (decide (c.Volume = ([] : Bytes)))) && (R27.ck3 d c))) (fun z => [(4, vB false), (32, vB z)]) (fun _ => [Ent.blk b19 23 (DataSet.enc d), Ent.mp vI M18 [(3, Value.func (.func 72) #[] #[]), (1, Value.func (.func 73) #[] #[pB b19 0]), (0, Value.func (.func 74) #[] #[pB b19 0])], Ent.blk b17 27 (Change.enc c), Ent.blk b16 23 (DataSet.enc d)]) ?_ ?_
  ·rcases Bool.eq_false_or_eq_true ((decide (c.Id = d.Id)) && (decide (c.Volume = ([] : Bytes)))) with g22 | g22
   ·have g22r := g22
    have ⟨g22r, h23⟩ := band_true g22r
    have g22r := of_decide_eq_true g22r
    have h23 := of_decide_eq_true h23
    refine sg_ g22 mv_ (rg_ g22 (ldN 2 (Change.enc c) Ty.ag27 Ty.sz27) ?_)
    refine JO_call [b19] [Ent.blk b19 23 (DataSet.enc d)] [Ent.mp vI M18 [(3, Value.func (.func 72) #[] #[]), (1, Value.func (.func 73) #[] #[pB b19 0]), (0, Value.func (.func 74) #[] #[pB b19 0])], Ent.blk b17 27 (Change.enc c), Ent.blk b16 23 (DataSet.enc d)] rfl ⟨_, rfl, g22⟩ (fun _ => x_callv (first := []) (caps := [pB b19 0]) rfl Ty.ca74 rfl) (fun _ h => ((((h.front 3 _ rfl).front 3 _ rfl).front 2 _ rfl).front 3 _ rfl).keep [true, true, true, true] rfl) (own_mem rfl) (fun w hS => f74_ok c b19 d w hy_ (hS.give (own_in rfl))) ?_
    rintro _ _ ⟨rfl, rfl⟩
    refine js_ (vB (R27.ck3 d c)) (x_pick_t rfl g22 rfl) ?_
    refine z_ (JX_cut (R27.ck3 d c) (by rw [g22]; simp) ⟨rfl, rfl, trivial⟩ (fun _ h => h))
   ·have g22r := g22
    simp only [Bool.and_eq_true, Bool.or_eq_true, Bool.and_eq_false_iff, Bool.or_eq_false_iff, Bool.not_eq_true', Bool.not_eq_false', decide_eq_true_eq, decide_eq_false_iff_not] at g22r
    refine sh_ g22 (sh_ g22 (sh_ g22 (js_ (vB false) (x_pick_f rfl g22 rfl) ?_)))
    refine z_ (JX_cut (false) (by rw [g22]; simp) ⟨rfl, rfl, trivial⟩ (fun _ h => ((((h.front 3 _ rfl).front 3 _ rfl).front 2 _ rfl).front 3 _ rfl).keep [true, true, true, true] rfl))
  rintro z21 rfl
  refine s_ av_ (z_ (n_ (rt_ ?_)))
  exact p1 Tryz.results25 rfl ⟨(eB c27c0_), rfl⟩
 ·refine q_ (g_ (o_ (bxG fun b24 => ?_)))
  refine o_ (bxG fun b25 => ?_)
  refine s_ av_ (z_ (n_ (q_ ?_)))
  refine drB [] 10 Ty.mixed ?_
  refine jq_ 0 rfl (ldN 1 (DataSet.enc d) Ty.ag23 Ty.sz23) (jp_ 2 rfl (fA 0 Ty.fi27_0) (jq_ 3 rfl (ld_ 0 Ty.sc3) (j1_ 1 ?_ gm_)))
  refine jc1_ rfl (cl_ Ty.ca52) (fun w hS => f47_ok3 d w hy_) ?_
  rintro _ _ ⟨M26, b27, rfl, rfl⟩
  refine j1_ 4 ?_ (fun _ h => ⟨h.keep [false, false, true, true] rfl, fun _ => h.keep [false, false, true, true] rfl⟩)
  refine JI_read (Value.tuple #[Value.nilFunc, vB false]) rfl rfl trivial (x_lookup_ok 0 (f := vI) (k := c.Kind) rfl rfl rfl Tryz.underlying104 (mapK_i Tryz.underlying3) Ty.ze102 (lk_ne (by omega) (lk_ne (by omega) (lk_ne (by omega) lk_nil)))) ?_
  refine jp_ 5 rfl mv_ (jp_ 6 rfl (ex_ 0) (jp_ 7 rfl (ex_ 1) (jp_ 8 rfl av_ (jp_ 9 rfl av_ ?_))))
  refine JA_done (by kernel_rfl) (fun _ h => ⟨h.keep [false, false, true, true] rfl, fun _ => h.keep [false, false, true, true] rfl⟩) ?_
  refine n_ (q_ (g_ (s_ mv_ (s_ mv_ (sh_ rfl (sh_ rfl (sh_ rfl (sh_ rfl (sh_ rfl (jr_ (vB false) (s_ mv_ ?_)))))))))))
  refine sh_ rfl (sh_ rfl (sh_ rfl (jr_ (vB false) (s_ mv_ (sh_ rfl (sh_ rfl (sh_ rfl (jr_ (vB false) (s_ av_ ?_)))))))))
  refine z_ (xk_ [4] ?_)
  refine n_ (rt_ ?_)
  exact p1 Tryz.results25 rfl ⟨(eB c27c0_), rfl⟩
 ·refine q_ (g_ (o_ (bxG fun b28 => ?_)))
  refine o_ (bxG fun b29 => ?_)
  refine s_ av_ (z_ (n_ (q_ ?_)))
  refine drB [] 10 Ty.mixed ?_
  refine jq_ 0 rfl (ldN 1 (DataSet.enc d) Ty.ag23 Ty.sz23) (jp_ 2 rfl (fA 0 Ty.fi27_0) (jq_ 3 rfl (ld_ 0 Ty.sc3) (j1_ 1 ?_ gm_)))
  refine jc1_ rfl (cl_ Ty.ca52) (fun w hS => f47_ok1 d w hy_) ?_
  rintro _ _ ⟨M30, b31, rfl, rfl⟩
  refine j1_ 4 ?_ (fun _ h => ⟨h.keep [false, false, true, true] rfl, fun _ => h.keep [false, false, true, true] rfl⟩)
  refine JI_read (Value.tuple #[Value.func (.func 72) #[] #[], vB true]) rfl rfl trivial (x_lookup_ok 0 (f := vI) (k := c.Kind) rfl rfl rfl Tryz.underlying104 (mapK_i Tryz.underlying3) Ty.ze102 (lk_hit (by omega))) ?_
  refine jp_ 5 rfl mv_ (jp_ 6 rfl (ex_ 0) (jp_ 7 rfl (ex_ 1) (jp_ 8 rfl av_ (jp_ 9 rfl av_ ?_))))
  refine JA_done (by kernel_rfl) (fun _ h => ⟨h.keep [false, false, true, true] rfl, fun _ => h.keep [false, false, true, true] rfl⟩) ?_
  refine n_ (q_ (g_ (s_ mv_ (s_ mv_ (sg_ rfl (fA 1 Ty.fi27_1) (rg_ rfl (ld_ 2 Ty.sc3) (sg_ rfl (fA 0 Ty.fi23_0) (rg_ rfl (ld_ 3 Ty.sc3) (sg_ rfl (x_eql_i rfl rfl) (jr_ (vB (decide (c.Id = d.Id))) (s_ mv_ ?_)))))))))))
  refine and_ 3 (decide (c.Volume = ([] : Bytes))) (fun g32 => ?_) ?_
  ·have g32r := g32
   have g32r := of_decide_eq_true g32r
   refine sg_ g32 (fA 4 Ty.fi27_4) (rg_ g32 (ld_ 2 Ty.sc9) (jg_ g32 (vB (decide (c.Volume = ([] : Bytes)))) (x_eql_s rfl rfl) ?_))
   exact cr_
  refine s_ mv_ ?_
  refine and_ 3 (R27.ck1 c) (fun g33 => ?_) ?_
  ·have g33r := g33
   have ⟨g33r, h34⟩ := band_true g33r
   have g33r := of_decide_eq_true g33r
   have h34 := of_decide_eq_true h34
   refine sg_ g33 mv_ (rg_ g33 (ldN 2 (Change.enc c) Ty.ag27 Ty.sz27) (c0g g33 (x_callv (first := []) (caps := []) rfl Ty.ca72 rfl) (fun w hS => f72_ok c w) ?_))
   exact cr_
  refine s_ av_ (z_ (xk_ [4] ?_))
  refine n_ (rt_ ?_)
  exact p1 Tryz.results25 rfl ⟨(eB c27c0_), rfl⟩
 ·refine q_ (g_ (o_ (bxG fun b35 => ?_)))
  refine o_ (bxG fun b36 => ?_)
  refine s_ av_ (z_ (n_ (q_ ?_)))
  refine drB [] 10 Ty.mixed ?_
  refine jq_ 0 rfl (ldN 1 (DataSet.enc d) Ty.ag23 Ty.sz23) (jp_ 2 rfl (fA 0 Ty.fi27_0) (jq_ 3 rfl (ld_ 0 Ty.sc3) (j1_ 1 ?_ gm_)))
  refine jc1_ rfl (cl_ Ty.ca52) (fun w hS => f47_ok1 d w hy_) ?_
  rintro _ _ ⟨M37, b38, rfl, rfl⟩
  refine j1_ 4 ?_ (fun _ h => ⟨h.keep [false, false, true, true] rfl, fun _ => h.keep [false, false, true, true] rfl⟩)
  refine JI_read (Value.tuple #[Value.func (.func 76) #[] #[pB b38 0], vB true]) rfl rfl trivial (x_lookup_ok 0 (f := vI) (k := c.Kind) rfl rfl rfl Tryz.underlying104 (mapK_i Tryz.underlying3) Ty.ze102 (lk_ne (by omega) (lk_hit (by omega)))) ?_
  refine jp_ 5 rfl mv_ (jp_ 6 rfl (ex_ 0) (jp_ 7 rfl (ex_ 1) (jp_ 8 rfl av_ (jp_ 9 rfl av_ ?_))))
  refine JA_done (by kernel_rfl) (fun _ h => ⟨h.keep [false, false, true, true] rfl, fun _ => h.keep [false, false, true, true] rfl⟩) ?_
  refine n_ (q_ (g_ (s_ mv_ (s_ mv_ (sg_ rfl (fA 1 Ty.fi27_1) (rg_ rfl (ld_ 2 Ty.sc3) (sg_ rfl (fA 0 Ty.fi23_0) (rg_ rfl (ld_ 3 Ty.sc3) (sg_ rfl (x_eql_i rfl rfl) (jr_ (vB (decide (c.Id = d.Id))) (s_ mv_ ?_)))))))))))
  refine and_ 3 (decide (c.Volume = ([] : Bytes))) (fun g39 => ?_) ?_
  ·have g39r := g39
   have g39r := of_decide_eq_true g39r
   refine sg_ g39 (fA 4 Ty.fi27_4) (rg_ g39 (ld_ 2 Ty.sc9) (jg_ g39 (vB (decide (c.Volume = ([] : Bytes)))) (x_eql_s rfl rfl) ?_))
   exact cr_
  refine s_ mv_ ?_
  refine JO_cut 4 (fun z => z = (((decide (c.Id = d.Id)) && (decide (c.Volume = ([] : Bytes)))) && (R27.ck4 d c))) (fun z => [(4, vB false), (32, vB z)]) (fun _ => [Ent.blk b38 23 (DataSet.enc d), Ent.mp vI M37 [(3, Value.func (.func 72) #[] #[]), (2, Value.func (.func 76) #[] #[pB b38 0])], Ent.blk b36 27 (Change.enc c), Ent.blk b35 23 (DataSet.enc d)]) ?_ ?_
  ·rcases Bool.eq_false_or_eq_true ((decide (c.Id = d.Id)) && (decide (c.Volume = ([] : Bytes)))) with g41 | g41
   ·have g41r := g41
    have ⟨g41r, h42⟩ := band_true g41r
    have g41r := of_decide_eq_true g41r
    have h42 := of_decide_eq_true h42
    refine sg_ g41 mv_ (rg_ g41 (ldN 2 (Change.enc c) Ty.ag27 Ty.sz27) ?_)
    refine JO_call [b38] [Ent.blk b38 23 (DataSet.enc d)] [Ent.mp vI M37 [(3, Value.func (.func 72) #[] #[]), (2, Value.func (.func 76) #[] #[pB b38 0])], Ent.blk b36 27 (Change.enc c), Ent.blk b35 23 (DataSet.enc d)] rfl ⟨_, rfl, g41⟩ (fun _ => x_callv (first := []) (caps := [pB b38 0]) rfl Ty.ca76 rfl) (fun _ h => ((((h.front 3 _ rfl).front 3 _ rfl).front 2 _ rfl).front 3 _ rfl).keep [true, true, true, true] rfl) (own_mem rfl) (fun w hS => f76_ok c b38 d w  (hS.give (own_in rfl))) ?_
    rintro _ _ ⟨rfl, rfl⟩
    refine js_ (vB (R27.ck4 d c)) (x_pick_t rfl g41 rfl) ?_
    refine z_ (JX_cut (R27.ck4 d c) (by rw [g41]; simp) ⟨rfl, rfl, trivial⟩ (fun _ h => h))
   ·have g41r := g41
    simp only [Bool.and_eq_true, Bool.or_eq_true, Bool.and_eq_false_iff, Bool.or_eq_false_iff, Bool.not_eq_true', Bool.not_eq_false', decide_eq_true_eq, decide_eq_false_iff_not] at g41r
    refine sh_ g41 (sh_ g41 (sh_ g41 (js_ (vB false) (x_pick_f rfl g41 rfl) ?_)))
    refine z_ (JX_cut (false) (by rw [g41]; simp) ⟨rfl, rfl, trivial⟩ (fun _ h => ((((h.front 3 _ rfl).front 3 _ rfl).front 2 _ rfl).front 3 _ rfl).keep [true, true, true, true] rfl))
  rintro z40 rfl
  refine s_ av_ (z_ (n_ (rt_ ?_)))
  exact p1 Tryz.results25 rfl ⟨(eB c27c0_), rfl⟩
 ·refine q_ (g_ (o_ (bxG fun b43 => ?_)))
  refine o_ (bxG fun b44 => ?_)
  refine s_ av_ (z_ (n_ (q_ ?_)))
  refine drB [] 10 Ty.mixed ?_
  refine jq_ 0 rfl (ldN 1 (DataSet.enc d) Ty.ag23 Ty.sz23) (jp_ 2 rfl (fA 0 Ty.fi27_0) (jq_ 3 rfl (ld_ 0 Ty.sc3) (j1_ 1 ?_ gm_)))
  refine jc1_ rfl (cl_ Ty.ca52) (fun w hS => f47_ok1 d w hy_) ?_
  rintro _ _ ⟨M45, b46, rfl, rfl⟩
  refine j1_ 4 ?_ (fun _ h => ⟨h.keep [false, false, true, true] rfl, fun _ => h.keep [false, false, true, true] rfl⟩)
  refine JI_read (Value.tuple #[Value.nilFunc, vB false]) rfl rfl trivial (x_lookup_ok 0 (f := vI) (k := c.Kind) rfl rfl rfl Tryz.underlying104 (mapK_i Tryz.underlying3) Ty.ze102 (lk_ne (by omega) (lk_ne (by omega) lk_nil))) ?_
  refine jp_ 5 rfl mv_ (jp_ 6 rfl (ex_ 0) (jp_ 7 rfl (ex_ 1) (jp_ 8 rfl av_ (jp_ 9 rfl av_ ?_))))
  refine JA_done (by kernel_rfl) (fun _ h => ⟨h.keep [false, false, true, true] rfl, fun _ => h.keep [false, false, true, true] rfl⟩) ?_
  refine n_ (q_ (g_ (s_ mv_ (s_ mv_ (sh_ rfl (sh_ rfl (sh_ rfl (sh_ rfl (sh_ rfl (jr_ (vB false) (s_ mv_ ?_)))))))))))
  refine sh_ rfl (sh_ rfl (sh_ rfl (jr_ (vB false) (s_ mv_ (sh_ rfl (sh_ rfl (sh_ rfl (jr_ (vB false) (s_ av_ ?_)))))))))
  refine z_ (xk_ [4] ?_)
  refine n_ (rt_ ?_)
  exact p1 Tryz.results25 rfl ⟨(eB c27c0_), rfl⟩
 ·refine q_ (g_ (o_ (bxG fun b47 => ?_)))
  refine o_ (bxG fun b48 => ?_)
  refine s_ av_ (z_ (n_ (q_ ?_)))
  refine drB [] 10 Ty.mixed ?_
  refine jq_ 0 rfl (ldN 1 (DataSet.enc d) Ty.ag23 Ty.sz23) (jp_ 2 rfl (fA 0 Ty.fi27_0) (jq_ 3 rfl (ld_ 0 Ty.sc3) (j1_ 1 ?_ gm_)))
  refine jc1_ rfl (cl_ Ty.ca52) (fun w hS => f47_ok2 d w hy_ hy_) ?_
  rintro _ _ ⟨M49, b50, rfl, rfl⟩
  refine j1_ 4 ?_ (fun _ h => ⟨h.keep [false, false, true, true] rfl, fun _ => h.keep [false, false, true, true] rfl⟩)
  refine JI_read (Value.tuple #[Value.func (.func 72) #[] #[], vB true]) rfl rfl trivial (x_lookup_ok 0 (f := vI) (k := c.Kind) rfl rfl rfl Tryz.underlying104 (mapK_i Tryz.underlying3) Ty.ze102 (lk_hit (by omega))) ?_
  refine jp_ 5 rfl mv_ (jp_ 6 rfl (ex_ 0) (jp_ 7 rfl (ex_ 1) (jp_ 8 rfl av_ (jp_ 9 rfl av_ ?_))))
  refine JA_done (by kernel_rfl) (fun _ h => ⟨h.keep [false, false, true, true] rfl, fun _ => h.keep [false, false, true, true] rfl⟩) ?_
  refine n_ (q_ (g_ (s_ mv_ (s_ mv_ (sg_ rfl (fA 1 Ty.fi27_1) (rg_ rfl (ld_ 2 Ty.sc3) (sg_ rfl (fA 0 Ty.fi23_0) (rg_ rfl (ld_ 3 Ty.sc3) (sg_ rfl (x_eql_i rfl rfl) (jr_ (vB (decide (c.Id = d.Id))) (s_ mv_ ?_)))))))))))
  refine and_ 3 (decide (c.Volume = ([] : Bytes))) (fun g51 => ?_) ?_
  ·have g51r := g51
   have g51r := of_decide_eq_true g51r
   refine sg_ g51 (fA 4 Ty.fi27_4) (rg_ g51 (ld_ 2 Ty.sc9) (jg_ g51 (vB (decide (c.Volume = ([] : Bytes)))) (x_eql_s rfl rfl) ?_))
   exact cr_
  refine s_ mv_ ?_
  refine and_ 3 (R27.ck1 c) (fun g52 => ?_) ?_
  ·have g52r := g52
   have ⟨g52r, h53⟩ := band_true g52r
   have g52r := of_decide_eq_true g52r
   have h53 := of_decide_eq_true h53
   refine sg_ g52 mv_ (rg_ g52 (ldN 2 (Change.enc c) Ty.ag27 Ty.sz27) (c0g g52 (x_callv (first := []) (caps := []) rfl Ty.ca72 rfl) (fun w hS => f72_ok c w) ?_))
   exact cr_
  refine s_ av_ (z_ (xk_ [4] ?_))
  refine n_ (rt_ ?_)
  exact p1 Tryz.results25 rfl ⟨(eB c27c0_), rfl⟩
 ·refine q_ (g_ (o_ (bxG fun b54 => ?_)))
  refine o_ (bxG fun b55 => ?_)
  refine s_ av_ (z_ (n_ (q_ ?_)))
  refine drB [] 10 Ty.mixed ?_
  refine jq_ 0 rfl (ldN 1 (DataSet.enc d) Ty.ag23 Ty.sz23) (jp_ 2 rfl (fA 0 Ty.fi27_0) (jq_ 3 rfl (ld_ 0 Ty.sc3) (j1_ 1 ?_ gm_)))
  refine jc1_ rfl (cl_ Ty.ca52) (fun w hS => f47_ok2 d w hy_ hy_) ?_
  rintro _ _ ⟨M56, b57, rfl, rfl⟩
  refine j1_ 4 ?_ (fun _ h => ⟨h.keep [false, false, true, true] rfl, fun _ => h.keep [false, false, true, true] rfl⟩)
  refine JI_read (Value.tuple #[Value.func (.func 77) #[] #[], vB true]) rfl rfl trivial (x_lookup_ok 0 (f := vI) (k := c.Kind) rfl rfl rfl Tryz.underlying104 (mapK_i Tryz.underlying3) Ty.ze102 (lk_ne (by omega) (lk_hit (by omega)))) ?_
  refine jp_ 5 rfl mv_ (jp_ 6 rfl (ex_ 0) (jp_ 7 rfl (ex_ 1) (jp_ 8 rfl av_ (jp_ 9 rfl av_ ?_))))
  refine JA_done (by kernel_rfl) (fun _ h => ⟨h.keep [false, false, true, true] rfl, fun _ => h.keep [false, false, true, true] rfl⟩) ?_
  refine n_ (q_ (g_ (s_ mv_ (s_ mv_ (sg_ rfl (fA 1 Ty.fi27_1) (rg_ rfl (ld_ 2 Ty.sc3) (sg_ rfl (fA 0 Ty.fi23_0) (rg_ rfl (ld_ 3 Ty.sc3) (sg_ rfl (x_eql_i rfl rfl) (jr_ (vB (decide (c.Id = d.Id))) (s_ mv_ ?_)))))))))))
  refine and_ 3 (decide (c.Volume = ([] : Bytes))) (fun g58 => ?_) ?_
  ·have g58r := g58
   have g58r := of_decide_eq_true g58r
   refine sg_ g58 (fA 4 Ty.fi27_4) (rg_ g58 (ld_ 2 Ty.sc9) (jg_ g58 (vB (decide (c.Volume = ([] : Bytes)))) (x_eql_s rfl rfl) ?_))
   exact cr_
  refine s_ mv_ ?_
  refine and_ 3 (R27.ck5 c) (fun g59 => ?_) ?_
  ·have g59r := g59
   have ⟨g59r, h60⟩ := band_true g59r
   have g59r := of_decide_eq_true g59r
   have h60 := of_decide_eq_true h60
   refine sg_ g59 mv_ (rg_ g59 (ldN 2 (Change.enc c) Ty.ag27 Ty.sz27) (c0g g59 (x_callv (first := []) (caps := []) rfl Ty.ca77 rfl) (fun w hS => f77_ok c w hy_) ?_))
   exact cr_
  refine s_ av_ (z_ (xk_ [4] ?_))
  refine n_ (rt_ ?_)
  exact p1 Tryz.results25 rfl ⟨(eB c27c0_), rfl⟩
 ·refine q_ (g_ (o_ (bxG fun b61 => ?_)))
  refine o_ (bxG fun b62 => ?_)
  refine s_ av_ (z_ (n_ (q_ ?_)))
  refine drB [] 10 Ty.mixed ?_
  refine jq_ 0 rfl (ldN 1 (DataSet.enc d) Ty.ag23 Ty.sz23) (jp_ 2 rfl (fA 0 Ty.fi27_0) (jq_ 3 rfl (ld_ 0 Ty.sc3) (j1_ 1 ?_ gm_)))
  refine jc1_ rfl (cl_ Ty.ca52) (fun w hS => f47_ok2 d w hy_ hy_) ?_
  rintro _ _ ⟨M63, b64, rfl, rfl⟩
  refine j1_ 4 ?_ (fun _ h => ⟨h.keep [false, false, true, true] rfl, fun _ => h.keep [false, false, true, true] rfl⟩)
  refine JI_read (Value.tuple #[Value.func (.func 79) #[] #[pB b64 0], vB true]) rfl rfl trivial (x_lookup_ok 0 (f := vI) (k := c.Kind) rfl rfl rfl Tryz.underlying104 (mapK_i Tryz.underlying3) Ty.ze102 (lk_ne (by omega) (lk_ne (by omega) (lk_hit (by omega))))) ?_
  refine jp_ 5 rfl mv_ (jp_ 6 rfl (ex_ 0) (jp_ 7 rfl (ex_ 1) (jp_ 8 rfl av_ (jp_ 9 rfl av_ ?_))))
  refine JA_done (by kernel_rfl) (fun _ h => ⟨h.keep [false, false, true, true] rfl, fun _ => h.keep [false, false, true, true] rfl⟩) ?_
  refine n_ (q_ (g_ (s_ mv_ (s_ mv_ (sg_ rfl (fA 1 Ty.fi27_1) (rg_ rfl (ld_ 2 Ty.sc3) (sg_ rfl (fA 0 Ty.fi23_0) (rg_ rfl (ld_ 3 Ty.sc3) (sg_ rfl (x_eql_i rfl rfl) (jr_ (vB (decide (c.Id = d.Id))) (s_ mv_ ?_)))))))))))
  refine and_ 3 (decide (c.Volume = ([] : Bytes))) (fun g65 => ?_) ?_
  ·have g65r := g65
   have g65r := of_decide_eq_true g65r
   refine sg_ g65 (fA 4 Ty.fi27_4) (rg_ g65 (ld_ 2 Ty.sc9) (jg_ g65 (vB (decide (c.Volume = ([] : Bytes)))) (x_eql_s rfl rfl) ?_))
   exact cr_
  refine s_ mv_ ?_
  refine JO_cut 4 (fun z => z = (((decide (c.Id = d.Id)) && (decide (c.Volume = ([] : Bytes)))) && (R27.ck6 d c))) (fun z => [(4, vB false), (32, vB z)]) (fun _ => [Ent.blk b64 23 (DataSet.enc d), Ent.mp vI M63 [(3, Value.func (.func 72) #[] #[]), (1, Value.func (.func 77) #[] #[]), (0, Value.func (.func 79) #[] #[pB b64 0])], Ent.blk b62 27 (Change.enc c), Ent.blk b61 23 (DataSet.enc d)]) ?_ ?_
  ·rcases Bool.eq_false_or_eq_true ((decide (c.Id = d.Id)) && (decide (c.Volume = ([] : Bytes)))) with g67 | g67
   ·have g67r := g67
    have ⟨g67r, h68⟩ := band_true g67r
    have g67r := of_decide_eq_true g67r
    have h68 := of_decide_eq_true h68
    refine sg_ g67 mv_ (rg_ g67 (ldN 2 (Change.enc c) Ty.ag27 Ty.sz27) ?_)
    refine JO_call [b64] [Ent.blk b64 23 (DataSet.enc d)] [Ent.mp vI M63 [(3, Value.func (.func 72) #[] #[]), (1, Value.func (.func 77) #[] #[]), (0, Value.func (.func 79) #[] #[pB b64 0])], Ent.blk b62 27 (Change.enc c), Ent.blk b61 23 (DataSet.enc d)] rfl ⟨_, rfl, g67⟩ (fun _ => x_callv (first := []) (caps := [pB b64 0]) rfl Ty.ca79 rfl) (fun _ h => ((((h.front 3 _ rfl).front 3 _ rfl).front 2 _ rfl).front 3 _ rfl).keep [true, true, true, true] rfl) (own_mem rfl) (fun w hS => f79_ok c b64 d w hy_ (hS.give (own_in rfl))) ?_
    rintro _ _ ⟨rfl, rfl⟩
    refine js_ (vB (R27.ck6 d c)) (x_pick_t rfl g67 rfl) ?_
    refine z_ (JX_cut (R27.ck6 d c) (by rw [g67]; simp) ⟨rfl, rfl, trivial⟩ (fun _ h => h))
   ·have g67r := g67
    simp only [Bool.and_eq_true, Bool.or_eq_true, Bool.and_eq_false_iff, Bool.or_eq_false_iff, Bool.not_eq_true', Bool.not_eq_false', decide_eq_true_eq, decide_eq_false_iff_not] at g67r
    refine sh_ g67 (sh_ g67 (sh_ g67 (js_ (vB false) (x_pick_f rfl g67 rfl) ?_)))
    refine z_ (JX_cut (false) (by rw [g67]; simp) ⟨rfl, rfl, trivial⟩ (fun _ h => ((((h.front 3 _ rfl).front 3 _ rfl).front 2 _ rfl).front 3 _ rfl).keep [true, true, true, true] rfl))
  rintro z66 rfl
  refine s_ av_ (z_ (n_ (rt_ ?_)))
  exact p1 Tryz.results25 rfl ⟨(eB c27c0_), rfl⟩
 ·refine q_ (g_ (o_ (bxG fun b69 => ?_)))
  refine o_ (bxG fun b70 => ?_)
  refine s_ av_ (z_ (n_ (q_ ?_)))
  refine drB [] 10 Ty.mixed ?_
  refine jq_ 0 rfl (ldN 1 (DataSet.enc d) Ty.ag23 Ty.sz23) (jp_ 2 rfl (fA 0 Ty.fi27_0) (jq_ 3 rfl (ld_ 0 Ty.sc3) (j1_ 1 ?_ gm_)))
  refine jc1_ rfl (cl_ Ty.ca52) (fun w hS => f47_ok2 d w hy_ hy_) ?_
  rintro _ _ ⟨M71, b72, rfl, rfl⟩
  refine j1_ 4 ?_ (fun _ h => ⟨h.keep [false, false, true, true] rfl, fun _ => h.keep [false, false, true, true] rfl⟩)
  refine JI_read (Value.tuple #[Value.nilFunc, vB false]) rfl rfl trivial (x_lookup_ok 0 (f := vI) (k := c.Kind) rfl rfl rfl Tryz.underlying104 (mapK_i Tryz.underlying3) Ty.ze102 (lk_ne (by omega) (lk_ne (by omega) (lk_ne (by omega) lk_nil)))) ?_
  refine jp_ 5 rfl mv_ (jp_ 6 rfl (ex_ 0) (jp_ 7 rfl (ex_ 1) (jp_ 8 rfl av_ (jp_ 9 rfl av_ ?_))))
  refine JA_done (by kernel_rfl) (fun _ h => ⟨h.keep [false, false, true, true] rfl, fun _ => h.keep [false, false, true, true] rfl⟩) ?_
  refine n_ (q_ (g_ (s_ mv_ (s_ mv_ (sh_ rfl (sh_ rfl (sh_ rfl (sh_ rfl (sh_ rfl (jr_ (vB false) (s_ mv_ ?_)))))))))))
  refine sh_ rfl (sh_ rfl (sh_ rfl (jr_ (vB false) (s_ mv_ (sh_ rfl (sh_ rfl (sh_ rfl (jr_ (vB false) (s_ av_ ?_)))))))))
  refine z_ (xk_ [4] ?_)
  refine n_ (rt_ ?_)
  exact p1 Tryz.results25 rfl ⟨(eB c27c0_), rfl⟩
end Go.Proofs.YtmbinhhlfbgiaaaGreat
