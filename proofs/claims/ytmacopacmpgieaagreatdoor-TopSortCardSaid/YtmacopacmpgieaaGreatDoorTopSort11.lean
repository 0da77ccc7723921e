/- Cd, Pe44, Ce, Cf, Pl44l, Eq44, Ad44 in one text. -/
import Derived.Test.YtmacopacmpgieaaGreatDoorTopSort10
import Derived.Test.YtmacopacmpgieaaGreatDoorTopSort6
import Derived.Lib.Join
import Derived.Test.YtmacopacmpgieaaGreatDoorTopSort3
import Derived.Test.YtmacopacmpgieaaGreatDoorTopSort5
import Derived.Test.YtmacopacmpgieaaGreatDoorTopSort8
import Derived.Test.YtmacopacmpgieaaGreatDoorTopSort4
set_option linter.unusedVariables false
set_option linter.unusedSimpArgs false
namespace Go.Proofs.YtmacopacmpgieaaGreatDoor
open Go.GV
set_option linter.unusedVariables false
set_option linter.unusedSimpArgs false
theorem cd0_ {p : Prop} (h : p := by first | exact i2_2.putA q0 q1 (by omega) (by omega) (by omega) (by omega) (by assumption) (by assumption) | exact i2_2.putB q0 q1 (by omega) (by omega) (by omega) (by omega) (by assumption) (by assumption) | exact i2_2.putC q0 q1 (by omega) (by omega) (by omega) (by omega) (by omega) (by assumption) (by assumption) | exact i2_2.putD q0 q1 (by omega) (by omega) (by omega) (by omega) (by assumption) (by assumption) | exact i2_2.putE q0 q1 (by omega) (by omega) (by omega) (by omega) (by assumption) (by assumption) | exact i2_2.putF q0 q1 (by omega) (by omega) (by omega) (by omega) (by omega) (by assumption)) : p := h
set_option maxRecDepth 20000 in
theorem f26_ok (i : Int) (ap : Addr) (apx : Bytes) (w : World) (apR : RO [] w (some ap) [vS apx]) (q0 : 0 ≤ i) (q1 : i < apx.length) (q2 : apx.length ≤ 1000000) : Calls Tryz.prog 26 #[vI i, vP ap] w (Gives [] w fun v L => v = vB (decide (apx.getD i.toNat 0 = (42 : UInt8))) ∧ L = []) := by
 refine calls_J [] 8 Tryz.func26 rfl Tryz.ntmps26 [(0, _), (1, _)] rfl rfl (Give.nil w) ?_
 refine q_ (g_ (s_ av_ (z_ (n_ (q_ (g_ (r_ (x_load_ptr apR rfl Ty.sc9) (s_ mv_ (s_ (x_idx_i rfl rfl Tryz.underlying9 (by omega) (by omega)) (js_ (vB (decide (apx.getD (i).toNat 0 = (42 : UInt8)))) (x_eql_u8 rfl rfl) (s_ av_ (z_ (n_ (rt_ ?_))))))))))))))
 exact p1 Tryz.results26 rfl ⟨(eB (by rfl)), rfl⟩
set_option maxRecDepth 20000 in
theorem f27_ok (i : Int) (k : Int) (ap : Addr) (apx : Bytes) (bp : Addr) (bpx : Bytes) (w : World) (apR : RO [] w (some ap) [vS apx]) (bpR : RO [] w (some bp) [vS bpx]) (q0 : 0 ≤ i) (q1 : i < apx.length) (q2 : apx.length ≤ 1000000) (q3 : 0 ≤ k) (q4 : k < bpx.length) (q5 : bpx.length ≤ 1000000) : Calls Tryz.prog 27 #[vI i, vI k, vP ap, vP bp] w (Gives [] w fun v L => v = vB (decide (apx.getD i.toNat 0 = bpx.getD k.toNat 0)) ∧ L = []) := by
 refine calls_J [] 14 Tryz.func27 rfl Tryz.ntmps27 [(0, _), (1, _), (2, _), (3, _)] rfl rfl (Give.nil w) ?_
 refine q_ (g_ (s_ av_ (z_ (n_ (q_ ?_)))))
 refine drB [] 8 Ty.mixed ?_
 refine jq_ 0 rfl (x_load_ptr apR rfl Ty.sc9) (jp_ 1 rfl mv_ (jp_ 2 rfl (x_idx_i rfl rfl Tryz.underlying9 (by omega) (by omega)) (jq_ 3 rfl (x_load_ptr bpR rfl Ty.sc9) (jp_ 4 rfl mv_ (jp_ 5 rfl (x_idx_i rfl rfl Tryz.underlying9 (by omega) (by omega)) (jp_ 6 rfl (x_eql_u8 rfl rfl) (jp_ 7 rfl av_ ?_)))))))
 refine JA_done (by kernel_rfl) gm_ ?_
 refine n_ (rt_ ?_)
 exact p1 Tryz.results27 rfl ⟨(eB (by rfl)), rfl⟩
set_option maxRecDepth 20000 in
theorem ft1_ok (ap : Addr) (apx : Bytes) (bp : Addr) (bpx : Bytes) (w : World) (apR : RO [] w (some ap) [vS apx]) (bpR : RO [] w (some bp) [vS bpx]) (q0 : apx.length ≤ 39) (q1 : bpx.length ≤ 39) : Calls Tryz.prog 23 #[vI ((apx.length : Nat) : Int), vI ((bpx.length : Nat) : Int), Value.func (.func 26) #[] #[vP ap], Value.func (.func 27) #[] #[vP ap, vP bp]] w (Gives [] w fun v L => v = vB (R44.dp (R44.stS apx) (R44.onS apx bpx) apx.length bpx.length 0 0) ∧ L = []) := by
 refine calls_J [] 78 Tryz.func23 rfl Tryz.ntmps23 [(0, _), (1, _), (2, _), (3, _)] rfl rfl (Give.nil w) ?_
 refine q_ (g_ (s_ av_ (z_ (n_ (q_ (g_ (o_ (O_allocA vB (List.replicate 1600 false) Ty.zeA103 fun b1 => ?_))))))))
 refine z_ (n_ (q_ (g_ (s_ mv_ (s_ mv_ (s_ (x_indexAddr_arr (k := apx.length) Tryz.underlying103 Ty.sz102 rfl rfl lt_ (add_0kn _ _ _)) (s_ (x_indexAddr_arr (k := bpx.length) Tryz.underlying102 Ty.sz4 rfl rfl lt_ (add_k1 _ _ _)) (o_ (O_store_arr (a := true) 0 vB [Ent.blk b1 103 (((List.replicate 1600 false).set (apx.length * 40 + bpx.length) true).map vB)] rfl rfl rfl Ty.sz4 rfl lt_ rfl ?_)))))))))
 refine z_ (n_ (q_ (q_ (g_ (s_ mv_ (s_ (x_sub_i (a := ((apx.length : Nat) : Int)) (b := 1) rfl rfl (by omega) (by omega)) (s_ av_ (z_ (n_ (k_ ?_))))))))))
 refine J_loop (X := Int × (List Bool)) (fun (⟨i, fl⟩ : Int × (List Bool)) => (-1 ≤ i) ∧ (i < apx.length) ∧ (R44.TJ (R44.stS apx) (R44.onS apx bpx) apx.length bpx.length fl i bpx.length)) (fun (⟨i, fl⟩ : Int × (List Bool)) => [(1, vI ((bpx.length : Nat) : Int)), (2, Value.func (.func 26) #[] #[vP ap]), (3, Value.func (.func 27) #[] #[vP ap, vP bp]), (8, vB false), (9, pB b1 0), (10, vI i)]) (fun (⟨i, fl⟩ : Int × (List Bool)) => [Ent.blk b1 103 (fl.map vB)]) (fun (⟨i, fl⟩ : Int × (List Bool)) => (i + 1).toNat) ((((apx.length : Nat) : Int) - 1, (List.replicate 1600 false).set (apx.length * 40 + bpx.length) true) : Int × (List Bool)) ?_ ⟨rfl, rfl, rfl, rfl, rfl, rfl, trivial⟩ (fun _ h => h) ?_
 ·try dsimp only
  refine ⟨?_, ?_, ?_⟩
  ·first | rfl | omega | (simp_all; done) | (simp_all; omega)
  ·first | rfl | omega | (simp_all; done) | (simp_all; omega)
  ·exact R44.TJ.start q0 q1
 rintro ⟨i, fl⟩ hI1
 obtain ⟨i1_0, i1_1, i1_2⟩ := hI1
 try dsimp only at i1_0
 try dsimp only at i1_1
 try dsimp only at i1_2
 have hll := i1_2.len
 try dsimp only
 refine q_ (q_ (g_ (s_ mv_ (s_ (x_geq_i rfl rfl) (z_ (n_ ?_))))))
 refine ifd (fun h2w h2 => ?_) (fun h2w h2 => ?_)
 ·refine sk_ (n_ (q_ (k_ (q_ (g_ (s_ mv_ (s_ av_ (z_ (n_ (k_ ?_))))))))))
  refine J_loop (X := Int × (List Bool)) (fun (⟨k, fl⟩ : Int × (List Bool)) => (-1 ≤ k) ∧ (k ≤ bpx.length) ∧ (R44.TJ (R44.stS apx) (R44.onS apx bpx) apx.length bpx.length fl i k)) (fun (⟨k, fl⟩ : Int × (List Bool)) => [(1, vI ((bpx.length : Nat) : Int)), (2, Value.func (.func 26) #[] #[vP ap]), (3, Value.func (.func 27) #[] #[vP ap, vP bp]), (8, vB false), (9, pB b1 0), (10, vI i), (11, vI k)]) (fun (⟨k, fl⟩ : Int × (List Bool)) => [Ent.blk b1 103 (fl.map vB)]) (fun (⟨k, fl⟩ : Int × (List Bool)) => (k + 1).toNat) ((((bpx.length : Nat) : Int), fl) : Int × (List Bool)) ?_ ⟨rfl, rfl, rfl, rfl, rfl, rfl, rfl, trivial⟩ (fun _ h => h) ?_
  ·try dsimp only
   refine ⟨?_, ?_, ?_⟩
   ·first | rfl | omega | (simp_all; done) | (simp_all; omega)
   ·first | rfl | omega | (simp_all; done) | (simp_all; omega)
   ·exact i1_2
  rintro ⟨k, fl⟩ hI2
  obtain ⟨i2_0, i2_1, i2_2⟩ := hI2
  try dsimp only at i2_0
  try dsimp only at i2_1
  try dsimp only at i2_2
  have hll := i2_2.len
  try dsimp only
  refine q_ (q_ (g_ (s_ mv_ (s_ (x_geq_i rfl rfl) (z_ (n_ ?_))))))
  refine ifd (fun h3w h3 => ?_) (fun h3w h3 => ?_)
  ·refine sk_ (n_ (q_ (k_ (q_ (g_ (s_ mv_ (s_ mv_ (c0 (x_callv (first := []) (caps := [vP ap]) rfl Ty.ca26 rfl) (fun w hS => f26_ok i ap apx w (rno apR hS) hy_ hy_ hy_) (z_ (n_ ?_))))))))))
   refine ifd (fun h4w h4 => ?_) (fun h4w h4 => ?_)
   ·refine drU [] [23] 24 Ty.mixed ?_
    refine jp_ 0 rfl mv_ (jp_ 1 rfl mv_ (jp_ 2 rfl mv_ (jp_ 3 rfl (x_add_i (a := i) (b := 1) rfl rfl (by omega) (by omega)) (jp_ 4 rfl mv_ (jp_ 5 rfl (x_indexAddr_arr (k := (i + 1).toNat) Tryz.underlying103 Ty.sz102 rfl (ix_nat rfl (by omega)) lt_ (add_0kn _ _ _)) (jp_ 6 rfl (x_indexAddr_arr (k := (k).toNat) Tryz.underlying102 Ty.sz4 rfl (ix_nat rfl (by omega)) lt_ (add_k1 _ _ _)) ?_))))))
    refine JA_early 7 (vB (fl.getD (((i + 1).toNat) * 40 + ((k).toNat)) false)) rfl (by kernel_rfl) (by kernel_rfl) (by kernel_rfl) rfl (by kernel_rfl) (fun _ _ _ h => h) rfl trivial (x_load_arr 0 vB false rfl rfl Ty.sc4 lt_) ?_
    refine jp_ 8 rfl mv_ (jp_ 21 rfl (x_indexAddr_arr (k := (i).toNat) Tryz.underlying103 Ty.sz102 rfl (ix_nat rfl (by omega)) lt_ (add_0kn _ _ _)) ?_)
    refine jb_ 38 (fun h5 => ?_) (fun h5 => ?_)
    ·refine js2_ 9 rfl (js2_ 10 rfl (js2_ 11 rfl (js2_ 12 rfl (ju_ 13 rfl (ju_ 14 rfl (ju_ 15 rfl (ju_ 16 rfl (ju_ 17 rfl (ju_ 18 rfl ?_)))))))))
     refine js2_ 19 rfl ?_
     refine jt_ 20 (vB true) rfl (fun _ _ => rfl) ?_
     refine jp_ 22 rfl (x_indexAddr_arr (k := (k).toNat) Tryz.underlying102 Ty.sz4 rfl (ix_nat rfl (by omega)) lt_ (add_k1 _ _ _)) (j1_ 23 (jio_ rfl (O_store_arr (a := true) 0 vB [Ent.blk b1 103 ((fl.set (((i).toNat) * 40 + ((k).toNat)) true).map vB)] rfl rfl rfl Ty.sz4 rfl lt_ rfl ?_)) (fun _ h => ⟨h.keep [false] rfl, fun _ => h⟩))
     refine JA_done (by kernel_rfl) (gl_ rfl (fun _ h => h.keep [false] rfl)) ?_
     refine kx_ (n_ (g_ (s_ mv_ (s_ (x_sub_i (a := k) (b := 1) rfl rfl (by omega) (by omega)) (s_ av_ (z_ ?_))))))
     refine JX_round ((k - 1, fl.set (((i).toNat) * 40 + ((k).toNat)) true) : Int × (List Bool)) ?_ ?_ ⟨rfl, rfl, rfl, rfl, rfl, rfl, rfl, trivial⟩ (fun _ h => h)
     ·try dsimp only
      refine ⟨?_, ?_, ?_⟩
      ·first | rfl | omega | (simp_all; done) | (simp_all; omega)
      ·first | rfl | omega | (simp_all; done) | (simp_all; omega)
      ·exact cd0_
     ·try dsimp only
      first | omega | (simp; omega) | (simp_all; omega)
    ·refine jp_ 9 rfl mv_ (jp_ 10 rfl mv_ (jp_ 11 rfl (x_lss_i rfl rfl) (jp_ 12 rfl mv_ ?_ (hw := ⟨_, rfl, rfl⟩)) (hw := ⟨_, rfl, rfl⟩)) (hw := ⟨_, rfl, rfl⟩)) (hw := ⟨_, rfl, rfl⟩)
     refine jb_ 42 (fun h6 => ?_) (fun h6 => ?_)
     ·have h6 := of_decide_eq_true h6
      refine jp_ 13 rfl mv_ (jp_ 14 rfl mv_ (jp_ 15 rfl (x_add_i (a := k) (b := 1) rfl rfl (by omega) (by omega)) (jp_ 16 rfl (x_indexAddr_arr (k := (i).toNat) Tryz.underlying103 Ty.sz102 rfl (ix_nat rfl (by omega)) lt_ (add_0kn _ _ _)) (jp_ 17 rfl (x_indexAddr_arr (k := (k + 1).toNat) Tryz.underlying102 Ty.sz4 rfl (ix_nat rfl (by omega)) lt_ (add_k1 _ _ _)) ?_ (hw := ⟨_, rfl, rfl⟩)) (hw := ⟨_, rfl, rfl⟩)) (hw := ⟨_, rfl, rfl⟩)) (hw := ⟨_, rfl, rfl⟩)) (hw := ⟨_, rfl, rfl⟩)
      refine JA_early 18 (vB (fl.getD (((i).toNat) * 40 + ((k + 1).toNat)) false)) rfl (by kernel_rfl) (by kernel_rfl) (by kernel_rfl) rfl (by kernel_rfl) (fun _ _ _ h => h) rfl ⟨_, rfl, rfl⟩ (x_load_arr 0 vB false rfl rfl Ty.sc4 lt_) ?_
      refine JA_take 19 (vB (fl.getD (((i).toNat) * 40 + ((k + 1).toNat)) false)) rfl (by kernel_rfl) (by kernel_rfl) (by kernel_rfl) rfl (fun _ _ _ h => h) rfl ⟨_, rfl, rfl⟩ (fun _ _ => rfl) ?_
      refine jt_ 20 (vB (fl.getD (((i).toNat) * 40 + ((k + 1).toNat)) false)) rfl (fun _ _ => rfl) ?_
      refine jp_ 22 rfl (x_indexAddr_arr (k := (k).toNat) Tryz.underlying102 Ty.sz4 rfl (ix_nat rfl (by omega)) lt_ (add_k1 _ _ _)) (j1_ 23 (jio_ rfl (O_store_arr (a := (fl.getD (((i).toNat) * 40 + ((k + 1).toNat)) false)) 0 vB [Ent.blk b1 103 ((fl.set (((i).toNat) * 40 + ((k).toNat)) (fl.getD (((i).toNat) * 40 + ((k + 1).toNat)) false)).map vB)] rfl rfl rfl Ty.sz4 rfl lt_ rfl ?_)) (fun _ h => ⟨h.keep [false] rfl, fun _ => h⟩))
      refine JA_done (by kernel_rfl) (gl_ rfl (fun _ h => h.keep [false] rfl)) ?_
      refine kx_ (n_ (g_ (s_ mv_ (s_ (x_sub_i (a := k) (b := 1) rfl rfl (by omega) (by omega)) (s_ av_ (z_ ?_))))))
      refine JX_round ((k - 1, fl.set (((i).toNat) * 40 + ((k).toNat)) (fl.getD (((i).toNat) * 40 + ((k + 1).toNat)) false)) : Int × (List Bool)) ?_ ?_ ⟨rfl, rfl, rfl, rfl, rfl, rfl, rfl, trivial⟩ (fun _ h => h)
      ·try dsimp only
       refine ⟨?_, ?_, ?_⟩
       ·first | rfl | omega | (simp_all; done) | (simp_all; omega)
       ·first | rfl | omega | (simp_all; done) | (simp_all; omega)
       ·exact cd0_
      ·try dsimp only
       first | omega | (simp; omega) | (simp_all; omega)
     ·have h6 := of_decide_eq_false h6
      refine js2_ 13 rfl (js2_ 14 rfl (js2_ 15 rfl (js2_ 16 rfl (js2_ 17 rfl (js2_ 18 rfl ?_)))))
      refine JA_take 19 (vB false) rfl (by kernel_rfl) (by kernel_rfl) (by kernel_rfl) rfl (fun _ _ _ h => h) rfl ⟨_, rfl, rfl⟩ (fun _ _ => rfl) ?_
      refine jt_ 20 (vB false) rfl (fun _ _ => rfl) ?_
      refine jp_ 22 rfl (x_indexAddr_arr (k := (k).toNat) Tryz.underlying102 Ty.sz4 rfl (ix_nat rfl (by omega)) lt_ (add_k1 _ _ _)) (j1_ 23 (jio_ rfl (O_store_arr (a := false) 0 vB [Ent.blk b1 103 ((fl.set (((i).toNat) * 40 + ((k).toNat)) false).map vB)] rfl rfl rfl Ty.sz4 rfl lt_ rfl ?_)) (fun _ h => ⟨h.keep [false] rfl, fun _ => h⟩))
      refine JA_done (by kernel_rfl) (gl_ rfl (fun _ h => h.keep [false] rfl)) ?_
      refine kx_ (n_ (g_ (s_ mv_ (s_ (x_sub_i (a := k) (b := 1) rfl rfl (by omega) (by omega)) (s_ av_ (z_ ?_))))))
      refine JX_round ((k - 1, fl.set (((i).toNat) * 40 + ((k).toNat)) false) : Int × (List Bool)) ?_ ?_ ⟨rfl, rfl, rfl, rfl, rfl, rfl, rfl, trivial⟩ (fun _ h => h)
      ·try dsimp only
       refine ⟨?_, ?_, ?_⟩
       ·first | rfl | omega | (simp_all; done) | (simp_all; omega)
       ·first | rfl | omega | (simp_all; done) | (simp_all; omega)
       ·exact cd0_
      ·try dsimp only
       first | omega | (simp; omega) | (simp_all; omega)
   ·refine drU [] [22] 23 Ty.mixed ?_
    refine jp_ 0 rfl mv_ (jp_ 1 rfl mv_ (jp_ 2 rfl mv_ (jp_ 3 rfl mv_ (jp_ 4 rfl (x_lss_i rfl rfl) (jp_ 5 rfl mv_ (jp_ 20 rfl (x_indexAddr_arr (k := (i).toNat) Tryz.underlying103 Ty.sz102 rfl (ix_nat rfl (by omega)) lt_ (add_0kn _ _ _)) ?_))))))
    refine jb_ 58 (fun h7 => ?_) (fun h7 => ?_)
    ·have h7 := of_decide_eq_true h7
     refine jp_ 6 rfl mv_ (jp_ 7 rfl (x_add_i (a := i) (b := 1) rfl rfl (by omega) (by omega)) (jp_ 8 rfl mv_ (jp_ 9 rfl (x_add_i (a := k) (b := 1) rfl rfl (by omega) (by omega)) (jp_ 10 rfl (x_indexAddr_arr (k := (i + 1).toNat) Tryz.underlying103 Ty.sz102 rfl (ix_nat rfl (by omega)) lt_ (add_0kn _ _ _)) (jp_ 11 rfl (x_indexAddr_arr (k := (k + 1).toNat) Tryz.underlying102 Ty.sz4 rfl (ix_nat rfl (by omega)) lt_ (add_k1 _ _ _)) ?_ (hw := ⟨_, rfl, rfl⟩)) (hw := ⟨_, rfl, rfl⟩)) (hw := ⟨_, rfl, rfl⟩)) (hw := ⟨_, rfl, rfl⟩)) (hw := ⟨_, rfl, rfl⟩)) (hw := ⟨_, rfl, rfl⟩)
     refine JA_early 12 (vB (fl.getD (((i + 1).toNat) * 40 + ((k + 1).toNat)) false)) rfl (by kernel_rfl) (by kernel_rfl) (by kernel_rfl) rfl (by kernel_rfl) (fun _ _ _ h => h) rfl ⟨_, rfl, rfl⟩ (x_load_arr 0 vB false rfl rfl Ty.sc4 lt_) ?_
     refine jt_ 13 (vB (fl.getD (((i + 1).toNat) * 40 + ((k + 1).toNat)) false)) rfl (fun _ _ => rfl) ?_
     refine jp_ 14 rfl mv_ ?_
     refine jb_ 67 (fun h8 => ?_) (fun h8 => ?_)
     ·refine jp_ 15 rfl mv_ (jp_ 16 rfl mv_ (jp_ 17 rfl mv_ (j1_ 18 (jc0_ rfl (x_callv (first := []) (caps := [vP ap, vP bp]) rfl Ty.ca27 rfl) (fun w hS => f27_ok i k ap apx bp bpx w (rno apR hS) (rno bpR hS) hy_ hy_ hy_ hy_ hy_ hy_) ?_ (hw := ⟨_, rfl, rfl⟩)) (fun _ h => ⟨h.keep [false] rfl, fun _ => h⟩)) (hw := ⟨_, rfl, rfl⟩)) (hw := ⟨_, rfl, rfl⟩)) (hw := ⟨_, rfl, rfl⟩)
      refine jt_ 19 (vB (decide (apx.getD i.toNat 0 = bpx.getD k.toNat 0))) rfl (fun _ _ => rfl) ?_
      refine jp_ 21 rfl (x_indexAddr_arr (k := (k).toNat) Tryz.underlying102 Ty.sz4 rfl (ix_nat rfl (by omega)) lt_ (add_k1 _ _ _)) (j1_ 22 (jio_ rfl (O_store_arr (a := decide (apx.getD i.toNat 0 = bpx.getD k.toNat 0)) 0 vB [Ent.blk b1 103 ((fl.set (((i).toNat) * 40 + ((k).toNat)) (decide (apx.getD i.toNat 0 = bpx.getD k.toNat 0))).map vB)] rfl rfl rfl Ty.sz4 rfl lt_ rfl ?_)) (fun _ h => ⟨h.keep [false] rfl, fun _ => h⟩))
      refine JA_done (by kernel_rfl) (gl_ rfl (fun _ h => h.keep [false] rfl)) ?_
      refine kx_ (n_ (g_ (s_ mv_ (s_ (x_sub_i (a := k) (b := 1) rfl rfl (by omega) (by omega)) (s_ av_ (z_ ?_))))))
      refine JX_round ((k - 1, fl.set (((i).toNat) * 40 + ((k).toNat)) (decide (apx.getD i.toNat 0 = bpx.getD k.toNat 0))) : Int × (List Bool)) ?_ ?_ ⟨rfl, rfl, rfl, rfl, rfl, rfl, rfl, trivial⟩ (fun _ h => h)
      ·try dsimp only
       refine ⟨?_, ?_, ?_⟩
       ·first | rfl | omega | (simp_all; done) | (simp_all; omega)
       ·first | rfl | omega | (simp_all; done) | (simp_all; omega)
       ·exact cd0_
      ·try dsimp only
       first | omega | (simp; omega) | (simp_all; omega)
     ·refine js2_ 15 rfl (js2_ 16 rfl (js2_ 17 rfl (js2_ 18 rfl ?_)))
      refine jt_ 19 (vB false) rfl (fun _ _ => rfl) ?_
      refine jp_ 21 rfl (x_indexAddr_arr (k := (k).toNat) Tryz.underlying102 Ty.sz4 rfl (ix_nat rfl (by omega)) lt_ (add_k1 _ _ _)) (j1_ 22 (jio_ rfl (O_store_arr (a := false) 0 vB [Ent.blk b1 103 ((fl.set (((i).toNat) * 40 + ((k).toNat)) false).map vB)] rfl rfl rfl Ty.sz4 rfl lt_ rfl ?_)) (fun _ h => ⟨h.keep [false] rfl, fun _ => h⟩))
      refine JA_done (by kernel_rfl) (gl_ rfl (fun _ h => h.keep [false] rfl)) ?_
      refine kx_ (n_ (g_ (s_ mv_ (s_ (x_sub_i (a := k) (b := 1) rfl rfl (by omega) (by omega)) (s_ av_ (z_ ?_))))))
      refine JX_round ((k - 1, fl.set (((i).toNat) * 40 + ((k).toNat)) false) : Int × (List Bool)) ?_ ?_ ⟨rfl, rfl, rfl, rfl, rfl, rfl, rfl, trivial⟩ (fun _ h => h)
      ·try dsimp only
       refine ⟨?_, ?_, ?_⟩
       ·first | rfl | omega | (simp_all; done) | (simp_all; omega)
       ·first | rfl | omega | (simp_all; done) | (simp_all; omega)
       ·exact cd0_
      ·try dsimp only
       first | omega | (simp; omega) | (simp_all; omega)
    ·have h7 := of_decide_eq_false h7
     refine js2_ 6 rfl (js2_ 7 rfl (js2_ 8 rfl (js2_ 9 rfl (js2_ 10 rfl (js2_ 11 rfl (js2_ 12 rfl ?_))))))
     refine jt_ 13 (vB false) rfl (fun _ _ => rfl) ?_
     refine jp_ 14 rfl mv_ (js2_ 15 rfl (js2_ 16 rfl (js2_ 17 rfl (js2_ 18 rfl ?_))))
     refine jt_ 19 (vB false) rfl (fun _ _ => rfl) ?_
     refine jp_ 21 rfl (x_indexAddr_arr (k := (k).toNat) Tryz.underlying102 Ty.sz4 rfl (ix_nat rfl (by omega)) lt_ (add_k1 _ _ _)) (j1_ 22 (jio_ rfl (O_store_arr (a := false) 0 vB [Ent.blk b1 103 ((fl.set (((i).toNat) * 40 + ((k).toNat)) false).map vB)] rfl rfl rfl Ty.sz4 rfl lt_ rfl ?_)) (fun _ h => ⟨h.keep [false] rfl, fun _ => h⟩))
     refine JA_done (by kernel_rfl) (gl_ rfl (fun _ h => h.keep [false] rfl)) ?_
     refine kx_ (n_ (g_ (s_ mv_ (s_ (x_sub_i (a := k) (b := 1) rfl rfl (by omega) (by omega)) (s_ av_ (z_ ?_))))))
     refine JX_round ((k - 1, fl.set (((i).toNat) * 40 + ((k).toNat)) false) : Int × (List Bool)) ?_ ?_ ⟨rfl, rfl, rfl, rfl, rfl, rfl, rfl, trivial⟩ (fun _ h => h)
     ·try dsimp only
      refine ⟨?_, ?_, ?_⟩
      ·first | rfl | omega | (simp_all; done) | (simp_all; omega)
      ·first | rfl | omega | (simp_all; done) | (simp_all; omega)
      ·exact cd0_
     ·try dsimp only
      first | omega | (simp; omega) | (simp_all; omega)
  ·refine J_exit (ne_ (re_ (kh_ (kx_ (n_ ?_)))))
   refine g_ (s_ mv_ (s_ (x_sub_i (a := i) (b := 1) rfl rfl (by omega) (by omega)) (s_ av_ (z_ ?_))))
   refine JX_round ((i - 1, fl) : Int × (List Bool)) ?_ ?_ ⟨rfl, rfl, rfl, rfl, rfl, rfl, trivial⟩ (fun _ h => h)
   ·try dsimp only
    refine ⟨?_, ?_, ?_⟩
    ·first | rfl | omega | (simp_all; done) | (simp_all; omega)
    ·first | rfl | omega | (simp_all; done) | (simp_all; omega)
    ·exact (show R44.TJ _ _ _ _ _ _ (-1) from (by rw [← (show k = -1 by omega)]; exact i2_2)).row
   ·try dsimp only
    first | omega | (simp; omega) | (simp_all; omega)
 ·refine J_exit (ne_ (re_ (kh_ (n_ (q_ ?_)))))
  refine g_ (s_ (x_indexAddr_arr (k := 0) Tryz.underlying103 Ty.sz102 rfl rfl (by decide) rfl) (s_ (x_indexAddr_arr (k := 0) Tryz.underlying102 Ty.sz4 rfl rfl (by decide) rfl) (r_ (x_load_arr 0 vB false rfl rfl Ty.sc4 lt_) (s_ av_ (z_ (n_ (rt_ ?_)))))))
  exact p1 Tryz.results23 rfl ⟨(eB ((show R44.TJ _ _ _ _ _ (-1) _ from (by rw [← (show i = -1 by omega)]; exact i1_2)).done)), rfl⟩
end Go.Proofs.YtmacopacmpgieaaGreatDoor

namespace Go.Proofs.YtmacopacmpgieaaGreatDoor
open Go.GV
namespace R44
def wordM (q s : Bytes) : Bool := dp (stS q) (onS q s) q.length s.length 0 0
def stX (a : List Bytes) (i : Nat) : Bool := decide (a.getD i [] = ([42, 42] : Bytes))
def onX (a b : List Bytes) (i k : Nat) : Bool := wordM (a.getD i []) (b.getD k [])
section
variable {a b : List Bytes} {fl : List Bool} {i k : Int}
abbrev TJx (a b : List Bytes) (fl : List Bool) (i k : Int) : Prop := TJ (stX a) (onX a b) a.length b.length fl i k
theorem TJ.xutA (h : TJx a b fl i k) (hp : a.length ≤ 39) (hn : b.length ≤ 39) (hi : 0 ≤ i) (hi2 : i < a.length) (hk : 0 ≤ k) (hk2 : k ≤ b.length) (hs : a.getD i.toNat [] = ([42, 42] : Bytes)) (hb : fl.getD ((i + 1).toNat * 40 + k.toNat) false = true) : TJx a b (fl.set (i.toNat * 40 + k.toNat) true) i (k - 1) := by
  refine h.put hp hn hi hi2 hk hk2 ?_
  rw [dp_star (by omega) (by omega) (decide_eq_true hs), ← h.below hi hi2 (by omega), hb]; rfl
theorem TJ.xutB (h : TJx a b fl i k) (hp : a.length ≤ 39) (hn : b.length ≤ 39) (hi : 0 ≤ i) (hi2 : i < a.length) (hk : 0 ≤ k) (hk2 : k < b.length) (hs : a.getD i.toNat [] = ([42, 42] : Bytes)) (hb : fl.getD ((i + 1).toNat * 40 + k.toNat) false = false) : TJx a b (fl.set (i.toNat * 40 + k.toNat) (fl.getD (i.toNat * 40 + (k + 1).toNat) false)) i (k - 1) := by
  refine h.put hp hn hi hi2 hk (by omega) ?_
  rw [dp_star (by omega) (by omega) (decide_eq_true hs), ← h.below hi hi2 (by omega), hb, h.right hi hi2 hk hk2, decide_eq_true (by omega)]; rfl
theorem TJ.xutC (h : TJx a b fl i k) (hp : a.length ≤ 39) (hn : b.length ≤ 39) (hi : 0 ≤ i) (hi2 : i < a.length) (hk : 0 ≤ k) (hk2 : k ≤ b.length) (hk3 : ¬ k < b.length) (hs : a.getD i.toNat [] = ([42, 42] : Bytes)) (hb : fl.getD ((i + 1).toNat * 40 + k.toNat) false = false) : TJx a b (fl.set (i.toNat * 40 + k.toNat) false) i (k - 1) := by
  refine h.put hp hn hi hi2 hk hk2 ?_
  rw [dp_star (by omega) (by omega) (decide_eq_true hs), ← h.below hi hi2 (by omega), hb, decide_eq_false (by omega)]; rfl
theorem TJ.xutD (h : TJx a b fl i k) (hp : a.length ≤ 39) (hn : b.length ≤ 39) (hi : 0 ≤ i) (hi2 : i < a.length) (hk : 0 ≤ k) (hk2 : k < b.length) (hs : ¬ a.getD i.toNat [] = ([42, 42] : Bytes)) (hb : fl.getD ((i + 1).toNat * 40 + (k + 1).toNat) false = true) : TJx a b (fl.set (i.toNat * 40 + k.toNat) (wordM (a.getD i.toNat []) (b.getD k.toNat []))) i (k - 1) := by
  refine h.put hp hn hi hi2 hk (by omega) ?_
  rw [dp_one (by omega) (by omega) (decide_eq_false hs), show k.toNat + 1 = (k + 1).toNat by omega, ← h.below hi hi2 (by omega), hb, decide_eq_true (p := k.toNat < b.length) (by omega)]; rfl
theorem TJ.xutE (h : TJx a b fl i k) (hp : a.length ≤ 39) (hn : b.length ≤ 39) (hi : 0 ≤ i) (hi2 : i < a.length) (hk : 0 ≤ k) (hk2 : k < b.length) (hs : ¬ a.getD i.toNat [] = ([42, 42] : Bytes)) (hb : fl.getD ((i + 1).toNat * 40 + (k + 1).toNat) false = false) : TJx a b (fl.set (i.toNat * 40 + k.toNat) false) i (k - 1) := by
  refine h.put hp hn hi hi2 hk (by omega) ?_
  rw [dp_one (by omega) (by omega) (decide_eq_false hs), show k.toNat + 1 = (k + 1).toNat by omega, ← h.below hi hi2 (by omega), hb, decide_eq_true (p := k.toNat < b.length) (by omega)]; rfl
theorem TJ.xutF (h : TJx a b fl i k) (hp : a.length ≤ 39) (hn : b.length ≤ 39) (hi : 0 ≤ i) (hi2 : i < a.length) (hk : 0 ≤ k) (hk2 : k ≤ b.length) (hk3 : ¬ k < b.length) (hs : ¬ a.getD i.toNat [] = ([42, 42] : Bytes)) : TJx a b (fl.set (i.toNat * 40 + k.toNat) false) i (k - 1) := by
  refine h.put hp hn hi hi2 hk hk2 ?_
  rw [dp_one (by omega) (by omega) (decide_eq_false hs), decide_eq_false (p := k.toNat < b.length) (by omega)]; rfl
end
end R44
end Go.Proofs.YtmacopacmpgieaaGreatDoor

namespace Go.Proofs.YtmacopacmpgieaaGreatDoor
open Go.GV
set_option linter.unusedVariables false
set_option linter.unusedSimpArgs false
set_option maxRecDepth 20000 in
theorem f24_ok (i : Int) (bp : Nat) (xs : List Bytes) (xsA : Option Addr) (xsC : Nat) (w : World) (xsR : RO [bp] w xsA (xs.map vS)) (q0 : 0 ≤ i) (q1 : i < xs.length) (hg : Give [bp] w [Ent.blk bp 22 [vL xsA xs.length xsC]]) : Calls Tryz.prog 24 #[vI i, pB bp 0] w (Gives [bp] w fun v L => v = vB (decide (xs.getD i.toNat [] = ([42, 42] : Bytes))) ∧ L = [Ent.blk bp 22 [vL xsA xs.length xsC]]) := by
 refine calls_J [bp] 9 Tryz.func24 rfl Tryz.ntmps24 [(0, _), (1, _)] rfl rfl hg ?_
 refine q_ (g_ (s_ av_ (z_ (n_ (q_ (g_ (r_ (ld_ 0 Ty.sc22) (s_ mv_ (r_ (ixM (k := (i).toNat) (hy := (ix_nat rfl (by omega))) (cells_ro xsR) Tryz.underlying22 Ty.sz9) (r_ (ldM vS [] (cells_ro xsR) Ty.sc9) (js_ (vB (decide ((xs.getD ((i).toNat) []) = ([42, 42] : Bytes)))) (x_eql_s rfl rfl) (s_ av_ (z_ (n_ (rt_ ?_)))))))))))))))
 refine JX_rets [_] _ Tryz.results24 (fun w h => ⟨rfl, trivial⟩) rfl _ (fun _ h => h) ⟨?_, ?_⟩
 ·have e_x0 : (decide ((xs.getD ((i).toNat) []) = ([42, 42] : Bytes)) : Bool) = (decide (xs.getD i.toNat [] = ([42, 42] : Bytes))) := by rfl
  exact congrArg (fun (x0 : Bool) => vB x0) e_x0
 ·rfl
set_option maxRecDepth 20000 in
theorem f25_ok (i : Int) (k : Int) (bp : Nat) (bq : Nat) (xs : List Bytes) (xsA : Option Addr) (xsC : Nat) (ys : List Bytes) (ysA : Option Addr) (ysC : Nat) (w : World) (xsR : RO [bp, bq] w xsA (xs.map vS)) (ysR : RO [bp, bq] w ysA (ys.map vS)) (q0 : 0 ≤ i) (q1 : i < xs.length) (q2 : 0 ≤ k) (q3 : k < ys.length) (q4 : ∀ i, (xs.getD i []).length ≤ 39) (q5 : ∀ i, (ys.getD i []).length ≤ 39) (hg : Give [bp, bq] w [Ent.blk bp 22 [vL xsA xs.length xsC], Ent.blk bq 22 [vL ysA ys.length ysC]]) : Calls Tryz.prog 25 #[vI i, vI k, pB bp 0, pB bq 0] w (Gives [bp, bq] w fun v L => v = vB (R44.wordM (xs.getD i.toNat []) (ys.getD k.toNat [])) ∧ L = [Ent.blk bp 22 [vL xsA xs.length xsC], Ent.blk bq 22 [vL ysA ys.length ysC]]) := by
 have hxi := q4 i.toNat
 have hyk := q5 k.toNat
 refine calls_J [bp, bq] 24 Tryz.func25 rfl Tryz.ntmps25 [(0, _), (1, _), (2, _), (3, _)] rfl rfl hg ?_
 refine q_ (g_ (s_ av_ (z_ (n_ (q_ ?_)))))
 refine drB [10, 11] 12 Ty.mixed ?_
 refine jq_ 0 rfl (ld_ 0 Ty.sc22) (jp_ 1 rfl mv_ (jq_ 2 rfl (ixM (k := (i).toNat) (hy := (ix_nat rfl (by omega))) (cells_ro xsR) Tryz.underlying22 Ty.sz9) (jq_ 3 rfl (ldM vS [] (cells_ro xsR) Ty.sc9) (jq_ 4 rfl (ld_ 1 Ty.sc22) (jp_ 5 rfl mv_ (jq_ 6 rfl (ixM (k := (k).toNat) (hy := (ix_nat rfl (by omega))) (cells_ro ysR) Tryz.underlying22 Ty.sz9) (jq_ 7 rfl (ldM vS [] (cells_ro ysR) Ty.sc9) ?_)))))))
 refine JA_finX (X := Nat × Nat) (fun ⟨b1, b3⟩ => [(6, vB false), (7, pB b1 0), (8, pB b3 0)]) (fun ⟨b1, b3⟩ => [Ent.blk b3 9 [vS (ys.getD ((k).toNat) [])], Ent.blk b1 9 [vS (xs.getD ((i).toNat) [])], Ent.blk bp 22 [vL xsA xs.length xsC], Ent.blk bq 22 [vL ysA ys.length ysC]]) ?_ (fun key1 => ?_)
 ·rintro ⟨b1, b3⟩
  show JX _ _ _ _ _ [(6, vB false), (7, pB b1 0), (8, pB b3 0)] [Ent.blk b3 9 [vS (ys.getD ((k).toNat) [])], Ent.blk b1 9 [vS (xs.getD ((i).toNat) [])], Ent.blk bp 22 [vL xsA xs.length xsC], Ent.blk bq 22 [vL ysA ys.length ysC]]
  refine n_ (q_ (g_ (r_ (ld_ 1 Ty.sc9) (s_ (x_len_s rfl Tryz.underlying9) (r_ (ld_ 0 Ty.sc9) (s_ (x_len_s rfl Tryz.underlying9) (js_ (Value.func (.func 26) #[] #[pB b1 0]) (x_makeFunc rfl rfl) (js_ (Value.func (.func 27) #[] #[pB b1 0, pB b3 0]) (x_makeFunc rfl rfl) (c0 (cl_ Ty.ca23) (fun w hS => ft1_ok _ _ _ _ w (RO.of_blk hS 1 (off := 0) (m := 1) rfl rfl) (RO.of_blk hS 0 (off := 0) (m := 1) rfl rfl) hy_ hy_) (s_ av_ (z_ (n_ (rt_ ?_)))))))))))))
  refine JX_rets [_] _ Tryz.results25 (fun w h => ⟨rfl, trivial⟩) rfl _ (fun _ h => h.keep [false, false, true, true] rfl) ⟨?_, ?_⟩
  ·have e_x0 : (R44.dp (R44.stS (xs.getD ((i).toNat) [])) (R44.onS (xs.getD ((i).toNat) []) (ys.getD ((k).toNat) [])) (xs.getD ((i).toNat) []).length (ys.getD ((k).toNat) []).length 0 0 : Bool) = (R44.wordM (xs.getD i.toNat []) (ys.getD k.toNat [])) := by rfl
   exact congrArg (fun (x0 : Bool) => vB x0) e_x0
  ·rfl
 ·refine JA_ready (rs := [8, 9]) (by kernel_rfl) (by decide) gm_ (List.forall_mem_cons.2 ⟨?_, (List.forall_mem_cons.2 ⟨?_, all_nil⟩)⟩)
  ·refine jio_ rfl (al_ Ty.ze9 fun b2 => ?_)
   refine j1_ 9 (jio_ rfl (al_ Ty.ze9 fun b4 => ?_)) (fun _ h => ⟨h.keep [false, true, true] rfl, fun _ => h.keep [false, true, true] rfl⟩)
   refine j1_ 10 (jio_ rfl (st1 1 Ty.sz9 ?_)) (fun _ h => ⟨h.keep [false, false, true, true] rfl, fun _ => h.keep [false, false, true, true] rfl⟩)
   refine j1_ 11 (jio_ rfl (st1 0 Ty.sz9 ?_)) (gl_ rfl (fun _ h => h.keep [false, false, true, true] rfl))
   exact JA_done (by kernel_rfl) (gl_ rfl (fun _ h => h.keep [false, false, true, true] rfl)) (JX_weaken (E' := [(6, vB false), (7, pB b2 0), (8, pB b4 0)]) (L' := [Ent.blk b4 9 [vS (ys.getD ((k).toNat) [])], Ent.blk b2 9 [vS (xs.getD ((i).toNat) [])], Ent.blk bp 22 [vL xsA xs.length xsC], Ent.blk bq 22 [vL ysA ys.length ysC]]) ⟨rfl, rfl, rfl, trivial⟩ (fun _ h => h) (key1 (b2, b4)))
  ·refine jio_ rfl (al_ Ty.ze9 fun b5 => ?_)
   refine j1_ 8 (jio_ rfl (al_ Ty.ze9 fun b7 => ?_)) (fun _ h => ⟨h.keep [false, true, true] rfl, fun _ => h.keep [false, true, true] rfl⟩)
   refine j1_ 10 (jio_ rfl (st1 0 Ty.sz9 ?_)) (fun _ h => ⟨h.keep [false, false, true, true] rfl, fun _ => h.keep [false, false, true, true] rfl⟩)
   refine j1_ 11 (jio_ rfl (st1 1 Ty.sz9 ?_)) (gl_ rfl (fun _ h => h.keep [false, false, true, true] rfl))
   exact JA_done (by kernel_rfl) (gl_ rfl (fun _ h => h.keep [false, false, true, true] rfl)) (JX_weaken (E' := [(6, vB false), (7, pB b7 0), (8, pB b5 0)]) (L' := [Ent.blk b5 9 [vS (ys.getD ((k).toNat) [])], Ent.blk b7 9 [vS (xs.getD ((i).toNat) [])], Ent.blk bp 22 [vL xsA xs.length xsC], Ent.blk bq 22 [vL ysA ys.length ysC]]) ⟨rfl, rfl, rfl, trivial⟩ (fun _ h => ((((h.front 3 _ rfl).front 3 _ rfl).front 2 _ rfl).front 3 _ rfl).keep [true, true, true, true] rfl) (key1 (b7, b5)))
end Go.Proofs.YtmacopacmpgieaaGreatDoor

namespace Go.Proofs.YtmacopacmpgieaaGreatDoor
open Go.GV
set_option linter.unusedVariables false
set_option linter.unusedSimpArgs false
theorem cf0_ {p : Prop} (h : p := by first | exact i2_2.xutA q0 q1 (by omega) (by omega) (by omega) (by omega) (by assumption) (by assumption) | exact i2_2.xutB q0 q1 (by omega) (by omega) (by omega) (by omega) (by assumption) (by assumption) | exact i2_2.xutC q0 q1 (by omega) (by omega) (by omega) (by omega) (by omega) (by assumption) (by assumption) | exact i2_2.xutD q0 q1 (by omega) (by omega) (by omega) (by omega) (by assumption) (by assumption) | exact i2_2.xutE q0 q1 (by omega) (by omega) (by omega) (by omega) (by assumption) (by assumption) | exact i2_2.xutF q0 q1 (by omega) (by omega) (by omega) (by omega) (by omega) (by assumption)) : p := h
set_option maxRecDepth 20000 in
theorem ft2_ok (bp : Nat) (bq : Nat) (xs : List Bytes) (xsA : Option Addr) (xsC : Nat) (ys : List Bytes) (ysA : Option Addr) (ysC : Nat) (w : World) (xsR : RO [bp, bq] w xsA (xs.map vS)) (ysR : RO [bp, bq] w ysA (ys.map vS)) (q0 : xs.length ≤ 39) (q1 : ys.length ≤ 39) (q2 : ∀ i, (xs.getD i []).length ≤ 39) (q3 : ∀ i, (ys.getD i []).length ≤ 39) (hg : Give [bp, bq] w [Ent.blk bp 22 [vL xsA xs.length xsC], Ent.blk bq 22 [vL ysA ys.length ysC]]) : Calls Tryz.prog 23 #[vI ((xs.length : Nat) : Int), vI ((ys.length : Nat) : Int), Value.func (.func 24) #[] #[pB bp 0], Value.func (.func 25) #[] #[pB bp 0, pB bq 0]] w (Gives [bp, bq] w fun v L => v = vB (R44.dp (R44.stX xs) (R44.onX xs ys) xs.length ys.length 0 0) ∧ L = [Ent.blk bp 22 [vL xsA xs.length xsC], Ent.blk bq 22 [vL ysA ys.length ysC]]) := by
 refine calls_J [bp, bq] 78 Tryz.func23 rfl Tryz.ntmps23 [(0, _), (1, _), (2, _), (3, _)] rfl rfl hg ?_
 refine q_ (g_ (s_ av_ (z_ (n_ (q_ (g_ (o_ (O_allocA vB (List.replicate 1600 false) Ty.zeA103 fun b1 => ?_))))))))
 refine z_ (n_ (q_ (g_ (s_ mv_ (s_ mv_ (s_ (x_indexAddr_arr (k := xs.length) Tryz.underlying103 Ty.sz102 rfl rfl lt_ (add_0kn _ _ _)) (s_ (x_indexAddr_arr (k := ys.length) Tryz.underlying102 Ty.sz4 rfl rfl lt_ (add_k1 _ _ _)) (o_ (O_store_arr (a := true) 0 vB [Ent.blk b1 103 (((List.replicate 1600 false).set (xs.length * 40 + ys.length) true).map vB), Ent.blk bp 22 [vL xsA xs.length xsC], Ent.blk bq 22 [vL ysA ys.length ysC]] rfl rfl rfl Ty.sz4 rfl lt_ rfl ?_)))))))))
 refine z_ (n_ (q_ (q_ (g_ (s_ mv_ (s_ (x_sub_i (a := ((xs.length : Nat) : Int)) (b := 1) rfl rfl (by omega) (by omega)) (s_ av_ (z_ (n_ (k_ ?_))))))))))
 refine J_loop (X := Int × (List Bool)) (fun (⟨i, fl⟩ : Int × (List Bool)) => (-1 ≤ i) ∧ (i < xs.length) ∧ (R44.TJ (R44.stX xs) (R44.onX xs ys) xs.length ys.length fl i ys.length)) (fun (⟨i, fl⟩ : Int × (List Bool)) => [(1, vI ((ys.length : Nat) : Int)), (2, Value.func (.func 24) #[] #[pB bp 0]), (3, Value.func (.func 25) #[] #[pB bp 0, pB bq 0]), (8, vB false), (9, pB b1 0), (10, vI i)]) (fun (⟨i, fl⟩ : Int × (List Bool)) => [Ent.blk b1 103 (fl.map vB), Ent.blk bp 22 [vL xsA xs.length xsC], Ent.blk bq 22 [vL ysA ys.length ysC]]) (fun (⟨i, fl⟩ : Int × (List Bool)) => (i + 1).toNat) ((((xs.length : Nat) : Int) - 1, (List.replicate 1600 false).set (xs.length * 40 + ys.length) true) : Int × (List Bool)) ?_ ⟨rfl, rfl, rfl, rfl, rfl, rfl, trivial⟩ (fun _ h => h) ?_
 ·try dsimp only
  refine ⟨?_, ?_, ?_⟩
  ·first | rfl | omega | (simp_all; done) | (simp_all; omega)
  ·first | rfl | omega | (simp_all; done) | (simp_all; omega)
  ·exact R44.TJ.start q0 q1
 rintro ⟨i, fl⟩ hI1
 obtain ⟨i1_0, i1_1, i1_2⟩ := hI1
 try dsimp only at i1_0
 try dsimp only at i1_1
 try dsimp only at i1_2
 have hll := i1_2.len
 try dsimp only
 refine q_ (q_ (g_ (s_ mv_ (s_ (x_geq_i rfl rfl) (z_ (n_ ?_))))))
 refine ifd (fun h2w h2 => ?_) (fun h2w h2 => ?_)
 ·refine sk_ (n_ (q_ (k_ (q_ (g_ (s_ mv_ (s_ av_ (z_ (n_ (k_ ?_))))))))))
  refine J_loop (X := Int × (List Bool)) (fun (⟨k, fl⟩ : Int × (List Bool)) => (-1 ≤ k) ∧ (k ≤ ys.length) ∧ (R44.TJ (R44.stX xs) (R44.onX xs ys) xs.length ys.length fl i k)) (fun (⟨k, fl⟩ : Int × (List Bool)) => [(1, vI ((ys.length : Nat) : Int)), (2, Value.func (.func 24) #[] #[pB bp 0]), (3, Value.func (.func 25) #[] #[pB bp 0, pB bq 0]), (8, vB false), (9, pB b1 0), (10, vI i), (11, vI k)]) (fun (⟨k, fl⟩ : Int × (List Bool)) => [Ent.blk b1 103 (fl.map vB), Ent.blk bp 22 [vL xsA xs.length xsC], Ent.blk bq 22 [vL ysA ys.length ysC]]) (fun (⟨k, fl⟩ : Int × (List Bool)) => (k + 1).toNat) ((((ys.length : Nat) : Int), fl) : Int × (List Bool)) ?_ ⟨rfl, rfl, rfl, rfl, rfl, rfl, rfl, trivial⟩ (fun _ h => h) ?_
  ·try dsimp only
   refine ⟨?_, ?_, ?_⟩
   ·first | rfl | omega | (simp_all; done) | (simp_all; omega)
   ·first | rfl | omega | (simp_all; done) | (simp_all; omega)
   ·exact i1_2
  rintro ⟨k, fl⟩ hI2
  obtain ⟨i2_0, i2_1, i2_2⟩ := hI2
  try dsimp only at i2_0
  try dsimp only at i2_1
  try dsimp only at i2_2
  have hll := i2_2.len
  try dsimp only
  refine q_ (q_ (g_ (s_ mv_ (s_ (x_geq_i rfl rfl) (z_ (n_ ?_))))))
  refine ifd (fun h3w h3 => ?_) (fun h3w h3 => ?_)
  ·refine sk_ (n_ (q_ (k_ (q_ (g_ (s_ mv_ (s_ mv_ ?_)))))))
   refine JO_call [bp] [Ent.blk bp 22 [vL xsA xs.length xsC]] [Ent.blk b1 103 (fl.map vB), Ent.blk bq 22 [vL ysA ys.length ysC]] rfl trivial (fun _ => x_callv (first := []) (caps := [pB bp 0]) rfl Ty.ca24 rfl) (fun _ h => (((h.front 2 _ rfl).front 1 _ rfl).front 2 _ rfl).keep [true, true, true] rfl) (own_mem rfl) (fun w hS => f24_ok i bp xs xsA xsC w (xsR.on hS (own_mem rfl)) hy_ hy_ (hS.give (own_in rfl))) ?_
   rintro _ _ ⟨rfl, rfl⟩
   refine z_ (n_ ?_)
   refine ifd (fun h4w h4 => ?_) (fun h4w h4 => ?_)
   ·refine drU [Ent.blk bp 22 [vL xsA xs.length xsC], Ent.blk bq 22 [vL ysA ys.length ysC]] [23] 24 Ty.mixed ?_
    refine jp_ 0 rfl mv_ (jp_ 1 rfl mv_ (jp_ 2 rfl mv_ (jp_ 3 rfl (x_add_i (a := i) (b := 1) rfl rfl (by omega) (by omega)) (jp_ 4 rfl mv_ (jp_ 5 rfl (x_indexAddr_arr (k := (i + 1).toNat) Tryz.underlying103 Ty.sz102 rfl (ix_nat rfl (by omega)) lt_ (add_0kn _ _ _)) (jp_ 6 rfl (x_indexAddr_arr (k := (k).toNat) Tryz.underlying102 Ty.sz4 rfl (ix_nat rfl (by omega)) lt_ (add_k1 _ _ _)) ?_))))))
    refine JA_early 7 (vB (fl.getD (((i + 1).toNat) * 40 + ((k).toNat)) false)) rfl (by kernel_rfl) (by kernel_rfl) (by kernel_rfl) rfl (by kernel_rfl) (fun _ _ _ h => h) rfl trivial (x_load_arr 1 vB false rfl rfl Ty.sc4 lt_) ?_
    refine jp_ 8 rfl mv_ (jp_ 21 rfl (x_indexAddr_arr (k := (i).toNat) Tryz.underlying103 Ty.sz102 rfl (ix_nat rfl (by omega)) lt_ (add_0kn _ _ _)) ?_)
    refine jb_ 38 (fun h5 => ?_) (fun h5 => ?_)
    ·refine js2_ 9 rfl (js2_ 10 rfl (js2_ 11 rfl (js2_ 12 rfl (ju_ 13 rfl (ju_ 14 rfl (ju_ 15 rfl (ju_ 16 rfl (ju_ 17 rfl (ju_ 18 rfl ?_)))))))))
     refine js2_ 19 rfl ?_
     refine jt_ 20 (vB true) rfl (fun _ _ => rfl) ?_
     refine jp_ 22 rfl (x_indexAddr_arr (k := (k).toNat) Tryz.underlying102 Ty.sz4 rfl (ix_nat rfl (by omega)) lt_ (add_k1 _ _ _)) (j1_ 23 (jio_ rfl (O_store_arr (a := true) 1 vB [Ent.blk bp 22 [vL xsA xs.length xsC], Ent.blk b1 103 ((fl.set (((i).toNat) * 40 + ((k).toNat)) true).map vB), Ent.blk bq 22 [vL ysA ys.length ysC]] rfl rfl rfl Ty.sz4 rfl lt_ rfl ?_)) (fun _ h => ⟨h.keep [true, false, true] rfl, fun _ => h⟩))
     refine JA_done (by kernel_rfl) (gl_ rfl (fun _ h => h.keep [true, false, true] rfl)) ?_
     refine kx_ (n_ (g_ (s_ mv_ (s_ (x_sub_i (a := k) (b := 1) rfl rfl (by omega) (by omega)) (s_ av_ (z_ ?_))))))
     refine JX_round ((k - 1, fl.set (((i).toNat) * 40 + ((k).toNat)) true) : Int × (List Bool)) ?_ ?_ ⟨rfl, rfl, rfl, rfl, rfl, rfl, rfl, trivial⟩ (fun _ h => (((h.front 2 _ rfl).front 1 _ rfl).front 2 _ rfl).keep [true, true, true] rfl)
     ·try dsimp only
      refine ⟨?_, ?_, ?_⟩
      ·first | rfl | omega | (simp_all; done) | (simp_all; omega)
      ·first | rfl | omega | (simp_all; done) | (simp_all; omega)
      ·exact cf0_
     ·try dsimp only
      first | omega | (simp; omega) | (simp_all; omega)
    ·refine jp_ 9 rfl mv_ (jp_ 10 rfl mv_ (jp_ 11 rfl (x_lss_i rfl rfl) (jp_ 12 rfl mv_ ?_ (hw := ⟨_, rfl, rfl⟩)) (hw := ⟨_, rfl, rfl⟩)) (hw := ⟨_, rfl, rfl⟩)) (hw := ⟨_, rfl, rfl⟩)
     refine jb_ 42 (fun h6 => ?_) (fun h6 => ?_)
     ·have h6 := of_decide_eq_true h6
      refine jp_ 13 rfl mv_ (jp_ 14 rfl mv_ (jp_ 15 rfl (x_add_i (a := k) (b := 1) rfl rfl (by omega) (by omega)) (jp_ 16 rfl (x_indexAddr_arr (k := (i).toNat) Tryz.underlying103 Ty.sz102 rfl (ix_nat rfl (by omega)) lt_ (add_0kn _ _ _)) (jp_ 17 rfl (x_indexAddr_arr (k := (k + 1).toNat) Tryz.underlying102 Ty.sz4 rfl (ix_nat rfl (by omega)) lt_ (add_k1 _ _ _)) ?_ (hw := ⟨_, rfl, rfl⟩)) (hw := ⟨_, rfl, rfl⟩)) (hw := ⟨_, rfl, rfl⟩)) (hw := ⟨_, rfl, rfl⟩)) (hw := ⟨_, rfl, rfl⟩)
      refine JA_early 18 (vB (fl.getD (((i).toNat) * 40 + ((k + 1).toNat)) false)) rfl (by kernel_rfl) (by kernel_rfl) (by kernel_rfl) rfl (by kernel_rfl) (fun _ _ _ h => h) rfl ⟨_, rfl, rfl⟩ (x_load_arr 1 vB false rfl rfl Ty.sc4 lt_) ?_
      refine JA_take 19 (vB (fl.getD (((i).toNat) * 40 + ((k + 1).toNat)) false)) rfl (by kernel_rfl) (by kernel_rfl) (by kernel_rfl) rfl (fun _ _ _ h => h) rfl ⟨_, rfl, rfl⟩ (fun _ _ => rfl) ?_
      refine jt_ 20 (vB (fl.getD (((i).toNat) * 40 + ((k + 1).toNat)) false)) rfl (fun _ _ => rfl) ?_
      refine jp_ 22 rfl (x_indexAddr_arr (k := (k).toNat) Tryz.underlying102 Ty.sz4 rfl (ix_nat rfl (by omega)) lt_ (add_k1 _ _ _)) (j1_ 23 (jio_ rfl (O_store_arr (a := (fl.getD (((i).toNat) * 40 + ((k + 1).toNat)) false)) 1 vB [Ent.blk bp 22 [vL xsA xs.length xsC], Ent.blk b1 103 ((fl.set (((i).toNat) * 40 + ((k).toNat)) (fl.getD (((i).toNat) * 40 + ((k + 1).toNat)) false)).map vB), Ent.blk bq 22 [vL ysA ys.length ysC]] rfl rfl rfl Ty.sz4 rfl lt_ rfl ?_)) (fun _ h => ⟨h.keep [true, false, true] rfl, fun _ => h⟩))
      refine JA_done (by kernel_rfl) (gl_ rfl (fun _ h => h.keep [true, false, true] rfl)) ?_
      refine kx_ (n_ (g_ (s_ mv_ (s_ (x_sub_i (a := k) (b := 1) rfl rfl (by omega) (by omega)) (s_ av_ (z_ ?_))))))
      refine JX_round ((k - 1, fl.set (((i).toNat) * 40 + ((k).toNat)) (fl.getD (((i).toNat) * 40 + ((k + 1).toNat)) false)) : Int × (List Bool)) ?_ ?_ ⟨rfl, rfl, rfl, rfl, rfl, rfl, rfl, trivial⟩ (fun _ h => (((h.front 2 _ rfl).front 1 _ rfl).front 2 _ rfl).keep [true, true, true] rfl)
      ·try dsimp only
       refine ⟨?_, ?_, ?_⟩
       ·first | rfl | omega | (simp_all; done) | (simp_all; omega)
       ·first | rfl | omega | (simp_all; done) | (simp_all; omega)
       ·exact cf0_
      ·try dsimp only
       first | omega | (simp; omega) | (simp_all; omega)
     ·have h6 := of_decide_eq_false h6
      refine js2_ 13 rfl (js2_ 14 rfl (js2_ 15 rfl (js2_ 16 rfl (js2_ 17 rfl (js2_ 18 rfl ?_)))))
      refine JA_take 19 (vB false) rfl (by kernel_rfl) (by kernel_rfl) (by kernel_rfl) rfl (fun _ _ _ h => h) rfl ⟨_, rfl, rfl⟩ (fun _ _ => rfl) ?_
      refine jt_ 20 (vB false) rfl (fun _ _ => rfl) ?_
      refine jp_ 22 rfl (x_indexAddr_arr (k := (k).toNat) Tryz.underlying102 Ty.sz4 rfl (ix_nat rfl (by omega)) lt_ (add_k1 _ _ _)) (j1_ 23 (jio_ rfl (O_store_arr (a := false) 1 vB [Ent.blk bp 22 [vL xsA xs.length xsC], Ent.blk b1 103 ((fl.set (((i).toNat) * 40 + ((k).toNat)) false).map vB), Ent.blk bq 22 [vL ysA ys.length ysC]] rfl rfl rfl Ty.sz4 rfl lt_ rfl ?_)) (fun _ h => ⟨h.keep [true, false, true] rfl, fun _ => h⟩))
      refine JA_done (by kernel_rfl) (gl_ rfl (fun _ h => h.keep [true, false, true] rfl)) ?_
      refine kx_ (n_ (g_ (s_ mv_ (s_ (x_sub_i (a := k) (b := 1) rfl rfl (by omega) (by omega)) (s_ av_ (z_ ?_))))))
      refine JX_round ((k - 1, fl.set (((i).toNat) * 40 + ((k).toNat)) false) : Int × (List Bool)) ?_ ?_ ⟨rfl, rfl, rfl, rfl, rfl, rfl, rfl, trivial⟩ (fun _ h => (((h.front 2 _ rfl).front 1 _ rfl).front 2 _ rfl).keep [true, true, true] rfl)
      ·try dsimp only
       refine ⟨?_, ?_, ?_⟩
       ·first | rfl | omega | (simp_all; done) | (simp_all; omega)
       ·first | rfl | omega | (simp_all; done) | (simp_all; omega)
       ·exact cf0_
      ·try dsimp only
       first | omega | (simp; omega) | (simp_all; omega)
   ·refine drU [] [18, 22] 23 Ty.mixed ?_
    refine jp_ 0 rfl mv_ (jp_ 1 rfl mv_ (jp_ 2 rfl mv_ (jp_ 3 rfl mv_ (jp_ 4 rfl (x_lss_i rfl rfl) (jp_ 5 rfl mv_ (jp_ 20 rfl (x_indexAddr_arr (k := (i).toNat) Tryz.underlying103 Ty.sz102 rfl (ix_nat rfl (by omega)) lt_ (add_0kn _ _ _)) ?_))))))
    refine jb_ 58 (fun h7 => ?_) (fun h7 => ?_)
    ·have h7 := of_decide_eq_true h7
     refine jp_ 6 rfl mv_ (jp_ 7 rfl (x_add_i (a := i) (b := 1) rfl rfl (by omega) (by omega)) (jp_ 8 rfl mv_ (jp_ 9 rfl (x_add_i (a := k) (b := 1) rfl rfl (by omega) (by omega)) (jp_ 10 rfl (x_indexAddr_arr (k := (i + 1).toNat) Tryz.underlying103 Ty.sz102 rfl (ix_nat rfl (by omega)) lt_ (add_0kn _ _ _)) (jp_ 11 rfl (x_indexAddr_arr (k := (k + 1).toNat) Tryz.underlying102 Ty.sz4 rfl (ix_nat rfl (by omega)) lt_ (add_k1 _ _ _)) (j1_ 12 ?_ (fun _ h => ⟨h.keep [false, false, false] rfl, fun _ => h⟩)) (hw := ⟨_, rfl, rfl⟩)) (hw := ⟨_, rfl, rfl⟩)) (hw := ⟨_, rfl, rfl⟩)) (hw := ⟨_, rfl, rfl⟩)) (hw := ⟨_, rfl, rfl⟩)) (hw := ⟨_, rfl, rfl⟩)
     refine JI_read (vB (fl.getD (((i + 1).toNat) * 40 + ((k + 1).toNat)) false)) rfl rfl ⟨_, rfl, rfl⟩ (x_load_arr 1 vB false rfl rfl Ty.sc4 lt_) ?_
     refine jt_ 13 (vB (fl.getD (((i + 1).toNat) * 40 + ((k + 1).toNat)) false)) rfl (fun _ _ => rfl) ?_
     refine jp_ 14 rfl mv_ ?_
     refine jb_ 67 (fun h8 => ?_) (fun h8 => ?_)
     ·refine jp_ 15 rfl mv_ (jp_ 16 rfl mv_ (jp_ 17 rfl mv_ (j1_ 18 ?_ (fun _ h => ⟨h.keep [false, false, false] rfl, fun _ => h⟩)) (hw := ⟨_, rfl, rfl⟩)) (hw := ⟨_, rfl, rfl⟩)) (hw := ⟨_, rfl, rfl⟩)
      refine JI_call [bp, bq] [Ent.blk bp 22 [vL xsA xs.length xsC], Ent.blk bq 22 [vL ysA ys.length ysC]] [Ent.blk b1 103 (fl.map vB)] rfl rfl ⟨_, rfl, rfl⟩ (fun _ => x_callv (first := []) (caps := [pB bp 0, pB bq 0]) rfl Ty.ca25 rfl) (fun _ h => (((h.front 1 _ rfl).front 2 _ rfl).front 2 _ rfl).keep [true, true, true] rfl) (own_mem rfl) (fun w hS => f25_ok i k bp bq xs xsA xsC ys ysA ysC w (xsR.on hS (own_mem rfl)) (ysR.on hS (own_mem rfl)) hy_ hy_ hy_ hy_ hy_ hy_ (hS.give (own_in rfl))) ?_
      rintro _ _ ⟨rfl, rfl⟩
      refine jt_ 19 (vB (R44.wordM (xs.getD i.toNat []) (ys.getD k.toNat []))) rfl (fun _ _ => rfl) ?_
      refine jp_ 21 rfl (x_indexAddr_arr (k := (k).toNat) Tryz.underlying102 Ty.sz4 rfl (ix_nat rfl (by omega)) lt_ (add_k1 _ _ _)) (j1_ 22 (jio_ rfl (O_store_arr (a := R44.wordM (xs.getD i.toNat []) (ys.getD k.toNat [])) 2 vB [Ent.blk bp 22 [vL xsA xs.length xsC], Ent.blk bq 22 [vL ysA ys.length ysC], Ent.blk b1 103 ((fl.set (((i).toNat) * 40 + ((k).toNat)) (R44.wordM (xs.getD i.toNat []) (ys.getD k.toNat []))).map vB)] rfl rfl rfl Ty.sz4 rfl lt_ rfl ?_)) (gl_ rfl (fun _ h => h.keep [false, false, false] rfl)))
      refine JA_done (by kernel_rfl) (gl_ rfl (fun _ h => h.keep [false, false, false] rfl)) ?_
      refine kx_ (n_ (g_ (s_ mv_ (s_ (x_sub_i (a := k) (b := 1) rfl rfl (by omega) (by omega)) (s_ av_ (z_ ?_))))))
      refine JX_round ((k - 1, fl.set (((i).toNat) * 40 + ((k).toNat)) (R44.wordM (xs.getD i.toNat []) (ys.getD k.toNat []))) : Int × (List Bool)) ?_ ?_ ⟨rfl, rfl, rfl, rfl, rfl, rfl, rfl, trivial⟩ (fun _ h => (((h.front 1 _ rfl).front 1 _ rfl).front 2 _ rfl).keep [true, true, true] rfl)
      ·try dsimp only
       refine ⟨?_, ?_, ?_⟩
       ·first | rfl | omega | (simp_all; done) | (simp_all; omega)
       ·first | rfl | omega | (simp_all; done) | (simp_all; omega)
       ·exact cf0_
      ·try dsimp only
       first | omega | (simp; omega) | (simp_all; omega)
     ·refine js2_ 15 rfl (js2_ 16 rfl (js2_ 17 rfl (j1_ 18 ?_ (fun _ h => ⟨h.keep [false, false, false] rfl, fun _ => h⟩))))
      refine JI_shun rfl rfl (by first | rfl | exact ⟨_, rfl, rfl⟩) ?_
      refine jt_ 19 (vB false) rfl (fun _ _ => rfl) ?_
      refine jp_ 21 rfl (x_indexAddr_arr (k := (k).toNat) Tryz.underlying102 Ty.sz4 rfl (ix_nat rfl (by omega)) lt_ (add_k1 _ _ _)) (j1_ 22 (jio_ rfl (O_store_arr (a := false) 1 vB [Ent.blk bp 22 [vL xsA xs.length xsC], Ent.blk b1 103 ((fl.set (((i).toNat) * 40 + ((k).toNat)) false).map vB), Ent.blk bq 22 [vL ysA ys.length ysC]] rfl rfl rfl Ty.sz4 rfl lt_ rfl ?_)) (gl_ rfl (fun _ h => h.keep [false, false, false] rfl)))
      refine JA_done (by kernel_rfl) (gl_ rfl (fun _ h => h.keep [false, false, false] rfl)) ?_
      refine kx_ (n_ (g_ (s_ mv_ (s_ (x_sub_i (a := k) (b := 1) rfl rfl (by omega) (by omega)) (s_ av_ (z_ ?_))))))
      refine JX_round ((k - 1, fl.set (((i).toNat) * 40 + ((k).toNat)) false) : Int × (List Bool)) ?_ ?_ ⟨rfl, rfl, rfl, rfl, rfl, rfl, rfl, trivial⟩ (fun _ h => (((h.front 2 _ rfl).front 1 _ rfl).front 2 _ rfl).keep [true, true, true] rfl)
      ·try dsimp only
       refine ⟨?_, ?_, ?_⟩
       ·first | rfl | omega | (simp_all; done) | (simp_all; omega)
       ·first | rfl | omega | (simp_all; done) | (simp_all; omega)
       ·exact cf0_
      ·try dsimp only
       first | omega | (simp; omega) | (simp_all; omega)
    ·have h7 := of_decide_eq_false h7
     refine js2_ 6 rfl (js2_ 7 rfl (js2_ 8 rfl (js2_ 9 rfl (js2_ 10 rfl (js2_ 11 rfl (js2_ 12 rfl ?_))))))
     refine jt_ 13 (vB false) rfl (fun _ _ => rfl) ?_
     refine jp_ 14 rfl mv_ (js2_ 15 rfl (js2_ 16 rfl (js2_ 17 rfl (j1_ 18 ?_ (fun _ h => ⟨h.keep [false, false, false] rfl, fun _ => h⟩)))))
     refine JI_shun rfl rfl (by first | rfl | exact ⟨_, rfl, rfl⟩) ?_
     refine jt_ 19 (vB false) rfl (fun _ _ => rfl) ?_
     refine jp_ 21 rfl (x_indexAddr_arr (k := (k).toNat) Tryz.underlying102 Ty.sz4 rfl (ix_nat rfl (by omega)) lt_ (add_k1 _ _ _)) (j1_ 22 (jio_ rfl (O_store_arr (a := false) 1 vB [Ent.blk bp 22 [vL xsA xs.length xsC], Ent.blk b1 103 ((fl.set (((i).toNat) * 40 + ((k).toNat)) false).map vB), Ent.blk bq 22 [vL ysA ys.length ysC]] rfl rfl rfl Ty.sz4 rfl lt_ rfl ?_)) (gl_ rfl (fun _ h => h.keep [false, false, false] rfl)))
     refine JA_done (by kernel_rfl) (gl_ rfl (fun _ h => h.keep [false, false, false] rfl)) ?_
     refine kx_ (n_ (g_ (s_ mv_ (s_ (x_sub_i (a := k) (b := 1) rfl rfl (by omega) (by omega)) (s_ av_ (z_ ?_))))))
     refine JX_round ((k - 1, fl.set (((i).toNat) * 40 + ((k).toNat)) false) : Int × (List Bool)) ?_ ?_ ⟨rfl, rfl, rfl, rfl, rfl, rfl, rfl, trivial⟩ (fun _ h => (((h.front 2 _ rfl).front 1 _ rfl).front 2 _ rfl).keep [true, true, true] rfl)
     ·try dsimp only
      refine ⟨?_, ?_, ?_⟩
      ·first | rfl | omega | (simp_all; done) | (simp_all; omega)
      ·first | rfl | omega | (simp_all; done) | (simp_all; omega)
      ·exact cf0_
     ·try dsimp only
      first | omega | (simp; omega) | (simp_all; omega)
  ·refine J_exit (ne_ (re_ (kh_ (kx_ (n_ ?_)))))
   refine g_ (s_ mv_ (s_ (x_sub_i (a := i) (b := 1) rfl rfl (by omega) (by omega)) (s_ av_ (z_ ?_))))
   refine JX_round ((i - 1, fl) : Int × (List Bool)) ?_ ?_ ⟨rfl, rfl, rfl, rfl, rfl, rfl, trivial⟩ (fun _ h => h)
   ·try dsimp only
    refine ⟨?_, ?_, ?_⟩
    ·first | rfl | omega | (simp_all; done) | (simp_all; omega)
    ·first | rfl | omega | (simp_all; done) | (simp_all; omega)
    ·exact (show R44.TJ _ _ _ _ _ _ (-1) from (by rw [← (show k = -1 by omega)]; exact i2_2)).row
   ·try dsimp only
    first | omega | (simp; omega) | (simp_all; omega)
 ·refine J_exit (ne_ (re_ (kh_ (n_ (q_ ?_)))))
  refine g_ (s_ (x_indexAddr_arr (k := 0) Tryz.underlying103 Ty.sz102 rfl rfl (by decide) rfl) (s_ (x_indexAddr_arr (k := 0) Tryz.underlying102 Ty.sz4 rfl rfl (by decide) rfl) (r_ (x_load_arr 0 vB false rfl rfl Ty.sc4 lt_) (s_ av_ (z_ (n_ (rt_ ?_)))))))
  refine JX_rets [_] _ Tryz.results23 (fun w h => ⟨rfl, trivial⟩) rfl _ (fun _ h => h.keep [false, true, true] rfl) ⟨?_, ?_⟩
  ·have e_x0 : ((fl.getD 0 false) : Bool) = (R44.dp (R44.stX xs) (R44.onX xs ys) xs.length ys.length 0 0) := (show R44.TJ _ _ _ _ _ (-1) _ from (by rw [← (show i = -1 by omega)]; exact i1_2)).done
   exact congrArg (fun (x0 : Bool) => vB x0) e_x0
  ·rfl
end Go.Proofs.YtmacopacmpgieaaGreatDoor

namespace Go.Proofs.YtmacopacmpgieaaGreatDoor
open Go.GV
namespace R44
def kindT (k : Int) : Bytes := if k = 1 then [32, 110, 117, 109, 98, 101, 114] else if k = 2 then [32, 98, 105, 110, 97, 114, 121] else []
abbrev desT : Bytes := [32, 100, 101, 115, 99, 101, 110, 100, 105, 110, 103]
def fmt1 (f : SortField) : Bytes := (((Lib.decDigits f.At.toNat ++ [32]) ++ Lib.decDigits f.Length.toNat) ++ kindT f.Kind) ++ (if f.Descending = true then desT else [])
def fmtV (l : List SortField) : Bytes := if valid l = true then Lib.join (l.map fmt1) [44, 32] else []
section
variable {l : List SortField} {k : Nat} {s x : Bytes}
end
section
variable {R : List Bytes}
end
section
variable {W R1 R2 : List Bytes} {n1 n2 kd : Int} {o1 o2 de : Bool}
end
end R44
end Go.Proofs.YtmacopacmpgieaaGreatDoor

namespace Go.Proofs.YtmacopacmpgieaaGreatDoor
open Go.GV
namespace Ty
end Ty
end Go.Proofs.YtmacopacmpgieaaGreatDoor

namespace Go.Proofs.YtmacopacmpgieaaGreatDoor
open Go.GV Go.RowKit
namespace R44
theorem trim_swap (s : Bytes) : trimL (trimR s) = trimR (trimL s) := by
  obtain ⟨m, h1, h2, h3⟩ := trimR_split s
  rcases h3 with h3 | ⟨t, c, h3, hc⟩
  · rw [h3, List.nil_append] at h1
    have : trimL s = [] := trimL_all.2 (by rw [h1]; exact h2)
    rw [this, h3]; rfl
  · have hne : trimL (trimR s) ≠ [] := fun e => hc (trimL_all.1 e c (by rw [h3]; simp))
    have h4 : trimL s = trimL (trimR s) ++ m := by
      rw (config := { occs := .pos [1] }) [h1]
      unfold trimL
      rw [List.dropWhile_append]
      split
      · rename_i he
        rw [List.isEmpty_iff] at he
        exact absurd he hne
      · rfl
    have h5 : ∃ t', trimL (trimR s) = t' ++ [c] := by
      have hs : trimL (trimR s) <:+ trimR s := List.dropWhile_suffix _
      obtain ⟨p, hp⟩ := hs
      have hl := congrArg List.getLast? hp
      rw [h3, List.getLast?_append, List.getLast?_append] at hl
      cases hx : (trimL (t ++ [c])).getLast? with
      | none => rw [List.getLast?_eq_none_iff] at hx; rw [h3] at hne; exact absurd hx hne
      | some d =>
        rw [hx] at hl; simp at hl; subst hl
        obtain ⟨ys, hys⟩ := List.getLast?_eq_some_iff.1 hx
        exact ⟨ys, by rw [h3, hys]⟩
    obtain ⟨t', h5⟩ := h5
    rw [h4, trimR_app h2, h5, trimR_id hc]
theorem trims_len (s : Bytes) : (trimR (trimL s)).length ≤ s.length := Nat.le_trans (trimR_len _) (trimL_len _)
def cutM (s : Bytes) : Bytes × Bool := if s.head? = some 45 then (s.tail, true) else (s, false)
theorem cutM_len (s : Bytes) : (cutM s).1.length ≤ s.length := by unfold cutM; split <;> simp
theorem cutM_lib (s : Bytes) : Lib.trimPrefix s [45] = (cutM s).1 ∧ Lib.hasPrefix s [45] = (cutM s).2 := by
  unfold Lib.trimPrefix Lib.hasPrefix cutM
  cases s with
  | nil => exact ⟨rfl, rfl⟩
  | cons c t =>
    by_cases hc : c = 45
    · subst hc; simp
    · have h1 : ((45 : UInt8) == c) = false := by simp; exact fun e => hc e.symm
      have h2 : ¬ 45 = c := fun e => hc e.symm
      simp [List.isPrefixOf, hc, h2]
theorem cmpS_lib : ∀ (a b : Bytes), Lib.compareBytes a b = cmpS a b
  | [], [] => rfl
  | [], _ :: _ => rfl
  | _ :: _, [] => rfl
  | x :: a, y :: b => by
    rw [Lib.compareBytes, cmpS_lib a b]
    unfold cmpS
    by_cases h1 : x < y
    · rw [if_pos h1, if_pos (by rw [Op.bytesLess, decide_eq_true h1]; rfl)]
    · rw [if_neg h1]
      by_cases h2 : y < x
      · have hne : ¬ x = y := fun e => by subst e; exact h1 h2
        have hb : (x == y) = false := by simpa using hne
        rw [if_pos h2, if_neg (by rw [Op.bytesLess, decide_eq_false h1, hb]; simp), if_neg (fun e => hne (List.cons.inj e).1)]
      · have he : x = y := by
          rw [UInt8.lt_iff_toNat_lt] at h1 h2
          exact UInt8.toNat_inj.1 (by omega)
        subst he
        have hl : Op.bytesLess (x :: a) (x :: b) = Op.bytesLess a b := by rw [Op.bytesLess, decide_eq_false h1]; simp
        rw [if_neg h2, hl]
        by_cases h3 : a = b
        · subst h3; rw [if_pos rfl, if_pos rfl]
        · rw [if_neg h3, if_neg (fun e => h3 (List.cons.inj e).2)]
theorem dec_cut (s : Bytes) : dec s = if (cutM (trimR (trimL s))).1 = [] then none else (num (cutM (trimR (trimL s))).1 0).map fun n => if (cutM (trimR (trimL s))).2 = true then -n else n := by
  unfold dec cutM
  split
  · simp
  · split <;> simp
theorem dec_none {s : Bytes} (h : (cutM (trimR (trimL s))).1 = []) : dec s = none := by rw [dec_cut, if_pos h]
theorem dec_bad {s : Bytes} (h : num (cutM (trimR (trimL s))).1 0 = none) : dec s = none := by rw [dec_cut, h]; simp
theorem dec_pos' {s : Bytes} {n : Int} (h0 : (cutM (trimR (trimL s))).1 ≠ []) (h : num (cutM (trimR (trimL s))).1 0 = some n) (h2 : (cutM (trimR (trimL s))).2 = false) : dec s = some n := by rw [dec_cut, if_neg h0, h, h2]; rfl
theorem dec_neg' {s : Bytes} {n : Int} (h0 : (cutM (trimR (trimL s))).1 ≠ []) (h : num (cutM (trimR (trimL s))).1 0 = some n) (h2 : (cutM (trimR (trimL s))).2 = true) : dec s = some (-n) := by rw [dec_cut, if_neg h0, h, h2]; rfl
end R44
theorem trim_ok (s : Bytes) (w : World) (q0 : s.length ≤ 9223372036854775807) : Calls Tryz.prog 88 #[vS s, vS [32]] w (Gives [] w fun v L => v = vS (R44.trimR (R44.trimL s)) ∧ L = []) := by
  refine (Tryz.strings_Trim_one ⟨s.toArray⟩ 32 (by decide) w q0).mono ?_
  rintro e w' ⟨rfl, h⟩
  refine ⟨_, _, rfl, ⟨?_, rfl⟩, St.nil ?_⟩
  · show vS (R44.trimL (R44.trimR s)) = _
    rw [R44.trim_swap]
  · rcases h with rfl | rfl
    · exact Fr.refl _ _
    · exact Fr.drew _ _
theorem cutp_ok (s : Bytes) (w : World) : Calls Tryz.prog 89 #[vS s, vS [45]] w (Gives [] w fun v L => v = .tuple #[vS (R44.cutM s).1, vB (R44.cutM s).2] ∧ L = []) := by
  refine (Tryz.strings_CutPrefix ⟨s.toArray⟩ ⟨#[45]⟩ w).mono ?_
  rintro e w' ⟨rfl, rfl⟩
  refine ⟨_, _, rfl, ⟨?_, rfl⟩, St.nil (Fr.refl _ _)⟩
  show Value.tuple #[vS (Lib.trimPrefix s [45]), vB (Lib.hasPrefix s [45])] = _
  rw [(R44.cutM_lib s).1, (R44.cutM_lib s).2]
theorem scmp_ok (a b : Bytes) (w : World) : Calls Tryz.prog 77 #[vS a, vS b] w (Gives [] w fun v L => v = vI (R44.cmpS a b) ∧ L = []) := by
  refine (Tryz.strings_Compare ⟨a.toArray⟩ ⟨b.toArray⟩ w).mono ?_
  rintro e w' ⟨rfl, rfl⟩
  refine ⟨_, _, rfl, ⟨?_, rfl⟩, St.nil (Fr.refl _ _)⟩
  show vI (Lib.compareBytes a b) = _
  rw [R44.cmpS_lib]
end Go.Proofs.YtmacopacmpgieaaGreatDoor
