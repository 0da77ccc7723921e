/- C27lU, L27w in one text. -/
import Derived.Test.YtmbinhhlfbgiaaaGreatC27p
import Derived.Test.YtmbinhhlfbgiaaaGreatUpgradeUnique15
namespace Go.Proofs.YtmbinhhlfbgiaaaGreat
open Go.GV
set_option linter.unusedVariables false
set_option linter.unusedSimpArgs false
theorem c27lu0_ {p : Prop} (h : p := by first | exact R27.run_b1 (by assumption) (by assumption) | exact R27.run_t1 (Decidable.not_not.1 (by assumption)) (by assumption) (by assumption) (by assumption) (by assumption) | exact R27.run_t2 (Decidable.not_not.1 (by assumption)) (by assumption) (by assumption) (by assumption) (by assumption) | (have hd := R27.plan_head (Decidable.not_not.1 (by assumption)); first | omega | exact absurd hd.2.2.1 (by assumption) | exact absurd hd.2.2.2.1 (by assumption) | exact absurd hd.2.2.2.2 (by assumption))) : p := h
theorem c27lu2_ {p : Prop} (h : p := by rw [flat_length Change.enc 5 Change.enc_len]; first | omega | (simp; omega) | (simp_all; omega) | (simp_all; done)) : p := h
theorem c27lu3_ {p : Prop} (h : p := by first | assumption | exact fun i => Nat.le_trans (R27.small_get i2_1.2 i) (by omega)) : p := h
theorem c27lu4_ {p : Prop} (h : p := by exact R27.mid_step (Decidable.not_not.1 (of_decide_eq_false h10w)) hc (by omega) i2_1 _ _) : p := h
theorem c27lu5_ {p : Prop} (h : p := by first | exact R27.reachU_skip (by omega) q2 i1_1 | exact R27.reachU_next (by omega) q2 i1_1 (Decidable.not_not.1 (of_decide_eq_false h10w)) (by omega) (by omega) i2_1) : p := h
set_option maxHeartbeats 2000000 in
set_option maxRecDepth 20000 in
theorem f_runU (base : DataSet) (alts : List DataSet) (altsA : Option Addr) (altsC : Nat) (l : List Change) (lA : Option Addr) (lC : Nat) (w : World) (altsR : RO [] w altsA (alts.flatMap DataSet.enc)) (lR : RO [] w lA (l.flatMap Change.enc)) (q0 : R27.isSphere base alts = true) (q1 : R27.short l 41 = true) (q2 : R27.rising [] l = true) : Calls Tryz.prog 7 #[vG (DataSet.enc base), vL altsA alts.length altsC, vL lA l.length lC] w (GivesW [] w fun v L wx => ∃ ds : List Data, ∃ dsA : Option Addr, ∃ dsC : Nat, v = Value.tuple #[vG [vL dsA ds.length dsC, Value.pointer none], vB true] ∧ L = [] ∧ RO (List.range w.heap.size) wx dsA (ds.flatMap Data.enc) ∧ (∀ i : Nat, RO (List.range w.heap.size) wx (ds.getD i default).PairsA (((ds.getD i default).Pairs).flatMap Pair.enc)) ∧ (R27.ReachU base alts l l.length ds)) := by
 have hl := R27.short_len2 q1
 have ha := (R27.sph_facts q0).2.1
 refine calls_JW [] 124 Tryz.func7 rfl Tryz.ntmps7 [(0, _), (1, _), (2, _)] rfl rfl (Give.nil w) ?_
 refine q_ (g_ (o_ (bxG fun b1 => ?_)))
 refine o_ (al_ Ty.ze33 fun b2 => ?_)
 refine s_ av_ (z_ (n_ (q_ (g_ (js_ (vG [vL none 0 0, Value.pointer none]) (x_build (by kernel_rfl)) (o_ (al_ Ty.ze33 fun b3 => ?_)))))))
 refine o_ (stG 0 Ty.sz33 ?_)
 refine z_ (n_ (q_ (q_ (g_ (s_ mv_ (s_ (lnS Tryz.underlying25) (s_ mv_ (z_ (n_ (k_ ?_))))))))))
 refine J_loopB (X := Nat × (List Data) × (Option Addr) × Nat) (fun (⟨k, ds, dsA, dsC⟩ : Nat × (List Data) × (Option Addr) × Nat) => (k ≤ l.length) ∧ (R27.ReachU base alts l k ds)) (fun (⟨k, ds, dsA, dsC⟩ : Nat × (List Data) × (Option Addr) × Nat) wx => RO (Lown [Ent.blk b3 33 [vL dsA ds.length dsC, Value.pointer none], Ent.blk b2 33 [vL none 0 0, Value.pointer none], Ent.blk b1 23 (DataSet.enc base)] ++ List.range w.heap.size) wx dsA (ds.flatMap Data.enc) ∧ (∀ i : Nat, RO (Lown [Ent.blk b3 33 [vL dsA ds.length dsC, Value.pointer none], Ent.blk b2 33 [vL none 0 0, Value.pointer none], Ent.blk b1 23 (DataSet.enc base)] ++ List.range w.heap.size) wx (ds.getD i default).PairsA (((ds.getD i default).Pairs).flatMap Pair.enc))) (fun (⟨k, ds, dsA, dsC⟩ : Nat × (List Data) × (Option Addr) × Nat) => [(1, vL altsA alts.length altsC), (3, pB b1 0), (6, pB b2 0), (8, pB b3 0), (16, vL lA l.length lC), (17, vI ((l.length : Nat) : Int)), (18, vI ((k : Nat) : Int))]) (fun (⟨k, ds, dsA, dsC⟩ : Nat × (List Data) × (Option Addr) × Nat) => [Ent.blk b3 33 [vL dsA ds.length dsC, Value.pointer none], Ent.blk b2 33 [vL none 0 0, Value.pointer none], Ent.blk b1 23 (DataSet.enc base)]) (fun (⟨k, ds, dsA, dsC⟩ : Nat × (List Data) × (Option Addr) × Nat) => l.length - k) ((0, ([] : List Data), none, 0) : Nat × (List Data) × (Option Addr) × Nat) ?_ ⟨rfl, rfl, rfl, rfl, rfl, rfl, rfl, trivial⟩ (fun _ h => h) (fun wx hw => ⟨RO.nil, (fun _ => RO.nil)⟩) ?_
 ·try dsimp only
  refine ⟨?_, ?_⟩
  ·first | rfl | omega | (simp_all; done) | (simp_all; omega)
  ·exact R27.reachU_start
 rintro ⟨k, ds, dsA, dsC⟩ wb1 hI1 hW1 hB1
 have altsR := altsR.again hB1
 have lR := lR.again hB1
 obtain ⟨dsR0, dsN0⟩ := hW1
 have dsR := dsR0.fromF
 have dsN := fun i => (dsN0 i).fromF
 obtain ⟨i1_0, i1_1⟩ := hI1
 try dsimp only at i1_0
 try dsimp only at i1_1
 have hs0 := i1_1.1.2.1
 have hs1 : ∀ i, (ds.getD i default).Pairs.length ≤ 1000 := fun i => Nat.le_trans (R27.small_get i1_1.1.2 i) (by omega)
 have hs2 := i1_1.1.2.2.2
 have hc := R27.short_at q1 k
 try dsimp only
 refine q_ (g_ (s_ (x_lss_i rfl rfl) (z_ (n_ (q_ ?_)))))
 refine ifd (fun h4w h4 => ?_) (fun h4w h4 => ?_)
 ·refine sk_ (n_ (q_ (k_ (q_ (g_ (r_ (ixF Change.enc_len (cells_ro lR) Tryz.underlying25 Ty.sz27) (r_ (ldFN Change.enc_len (cells_ro lR) Ty.ag27 Ty.sz27) (o_ (al_ Ty.ze27 fun b5 => ?_)))))))))
  refine o_ (stG 0 Ty.sz27 ?_)
  refine z_ (n_ (q_ (g_ (r_ (ldN 1 [vL dsA ds.length dsC, Value.pointer none] Ty.ag33 Ty.sz33) (js_ (Value.iface 33 (vG [vL dsA ds.length dsC, Value.pointer none])) (x_iface rfl (by kernel_rfl)) (r_ (ldN 3 (DataSet.enc base) Ty.ag23 Ty.sz23) (s_ mv_ (r_ (ldN 0 (Change.enc (l.getD k default)) Ty.ag27 Ty.sz27) ?_))))))))
  refine c1 (cl_ Ty.ca8) (fun w hS => f8_ok ds dsA dsC base alts _ _ _ w (rno dsR hS) (fun i => (dsN i).on hS (fun _ h => by cases h)) (rno altsR hS) hy_ (by first | assumption | exact R27.pl_of_all rfl) hy_ hy_ hy_ (by first | assumption | exact R27.sh_of_all rfl)) ?_
  rintro _ _ ⟨A6, cc7, rfl, rfl⟩
  have ha8 := R27.plan_len ds base alts (l.getD k default)
  have ha9 := R27.plan_len ds base alts (l.getD k default)
  refine s_ mv_ (s_ (ex_ 0) (s_ (ex_ 1) (s_ av_ (s_ av_ (z_ (xk_ [1, 3, 6, 8, 16, 17, 18, 10, 11, 12] ?_))))))
  refine n_ (q_ (q_ (g_ (s_ mv_ (s_ (x_neq_i rfl rfl) (z_ (n_ ?_)))))))
  refine ifd (fun h10w h10 => ?_) (fun h10w h10 => ?_)
  ·refine q_ (q_ (g_ (s_ mv_ (s_ (lnS Tryz.underlying25) (s_ (x_gtr_i rfl rfl) (z_ (n_ ?_)))))))
   refine ifd (fun h11w h11 => ?_) (fun h11w h11 => ?_)
   ·refine q_ (g_ (r_ (ldN 2 [vL dsA ds.length dsC, Value.pointer none] Ty.ag33 Ty.sz33) (o_ (stG 3 Ty.sz33 ?_))))
    refine s_ av_ (z_ (n_ (rt_ (nr_ (nr_ (kq_ (nr_ (JX_roundB_ret (kq_ (nr_ ?_))))))))))
    exact False.elim c27lu0_
   ·refine sk_ (n_ (J_exit (ne_ (kh_ (n_ (g_ (s_ (x_add_n (a := k) (b := 1) rfl rfl (by omega)) (s_ mv_ (z_ ?_)))))))))
    refine JX_roundB ((k + 1, ds, dsA, dsC) : Nat × (List Data) × (Option Addr) × Nat) ?_ ?_ ⟨rfl, rfl, rfl, rfl, rfl, rfl, rfl, trivial⟩ (fun _ _ h => (hB1.back _ _ h)) (fun _ h => h.keep [false, false, true, true, true] rfl) (fun wx hw => ⟨(dsR0.againF (hw.keep [false, false, true, true, true] rfl)), (fun i => (dsN0 i).againF (hw.keep [false, false, true, true, true] rfl))⟩)
    ·try dsimp only
     refine ⟨?_, ?_⟩
     ·first | rfl | omega | (simp_all; done) | (simp_all; omega)
     ·exact c27lu5_
    ·try dsimp only
     first | omega | (simp; omega) | (simp_all; omega)
  ·refine sk_ (n_ (q_ (q_ ?_)))
   refine drB [] 39 Ty.mixed ?_
   refine jp_ 0 rfl mv_ (jp_ 1 rfl (lnS Tryz.underlying25) (jp_ 2 rfl (x_eql_i rfl rfl) (jp_ 3 rfl mv_ ?_)))
   refine jb_ 40 (fun h12 => ?_) (fun h12 => ?_)
   ·have h12 := of_decide_eq_true h12
    refine js2_ 4 rfl (js2_ 5 rfl (js2_ 6 rfl (js2_ 7 rfl (js2_ 8 rfl (js2_ 9 rfl (js2_ 10 rfl ?_))))))
    refine jt_ 11 (vB true) rfl (fun _ _ => rfl) ?_
    refine jp_ 12 rfl mv_ (js2_ 13 rfl (js2_ 14 rfl (js2_ 15 rfl (js2_ 16 rfl (js2_ 17 rfl (js2_ 18 rfl (js2_ 19 rfl ?_)))))))
    refine jt_ 20 (vB true) rfl (fun _ _ => rfl) ?_
    refine jp_ 21 rfl mv_ (js2_ 22 rfl (js2_ 23 rfl (js2_ 24 rfl (js2_ 25 rfl (js2_ 26 rfl (js2_ 27 rfl (js2_ 28 rfl ?_)))))))
    refine jt_ 29 (vB true) rfl (fun _ _ => rfl) ?_
    refine jp_ 30 rfl mv_ (js2_ 31 rfl (js2_ 32 rfl (js2_ 33 rfl (js2_ 34 rfl (js2_ 35 rfl (js2_ 36 rfl (js2_ 37 rfl ?_)))))))
    refine jt_ 38 (vB true) rfl (fun _ _ => rfl) ?_
    refine JA_done (by kernel_rfl) gm_ ?_
    refine n_ (ift (q_ (g_ (r_ (ldN 2 [vL dsA ds.length dsC, Value.pointer none] Ty.ag33 Ty.sz33) (o_ (stG 3 Ty.sz33 ?_))))))
    refine s_ av_ (z_ (xk_ [1, 3, 6, 8, 16, 17, 18, 10, 11, 7] ?_))
    refine n_ (rt_ (nr_ (kq_ (nr_ (JX_roundB_ret (kq_ (nr_ ?_)))))))
    exact False.elim c27lu0_
   ·have h12 := of_decide_eq_false h12
    refine jp_ 4 rfl mv_ (jp_ 5 rfl (lnS Tryz.underlying25) (jp_ 6 rfl mv_ (jp_ 7 rfl (lnS Tryz.underlying24) (jp_ 8 rfl (x_mul_n (a := 2) (b := alts.length) rfl rfl (by omega)) (jp_ 9 rfl (x_add_n (a := 1) (b := 2 * alts.length) rfl rfl (by omega)) (jp_ 10 rfl (x_gtr_i rfl rfl) ?_ (hw := ⟨_, rfl, rfl⟩)) (hw := ⟨_, rfl, rfl⟩)) (hw := ⟨_, rfl, rfl⟩)) (hw := ⟨_, rfl, rfl⟩)) (hw := ⟨_, rfl, rfl⟩)) (hw := ⟨_, rfl, rfl⟩)) (hw := ⟨_, rfl, rfl⟩)
    refine jt_ 11 (vB (decide (((1 + (2 * alts.length) : Nat) : Int) < (((R27.plan ds base alts (l.getD k default)).1.length : Nat) : Int)))) rfl (fun _ _ => rfl) ?_
    refine jp_ 12 rfl mv_ ?_
    refine jb_ 49 (fun h13 => ?_) (fun h13 => ?_)
    ·have h13 := of_decide_eq_true h13
     refine js2_ 13 rfl (js2_ 14 rfl (js2_ 15 rfl (js2_ 16 rfl (js2_ 17 rfl (js2_ 18 rfl (js2_ 19 rfl ?_))))))
     refine jt_ 20 (vB true) rfl (fun _ _ => rfl) ?_
     refine jp_ 21 rfl mv_ (js2_ 22 rfl (js2_ 23 rfl (js2_ 24 rfl (js2_ 25 rfl (js2_ 26 rfl (js2_ 27 rfl (js2_ 28 rfl ?_)))))))
     refine jt_ 29 (vB true) rfl (fun _ _ => rfl) ?_
     refine jp_ 30 rfl mv_ (js2_ 31 rfl (js2_ 32 rfl (js2_ 33 rfl (js2_ 34 rfl (js2_ 35 rfl (js2_ 36 rfl (js2_ 37 rfl ?_)))))))
     refine jt_ 38 (vB true) rfl (fun _ _ => rfl) ?_
     refine JA_done (by kernel_rfl) gm_ ?_
     refine n_ (ift (q_ (g_ (r_ (ldN 2 [vL dsA ds.length dsC, Value.pointer none] Ty.ag33 Ty.sz33) (o_ (stG 3 Ty.sz33 ?_))))))
     refine s_ av_ (z_ (xk_ [1, 3, 6, 8, 16, 17, 18, 10, 11, 7] ?_))
     refine n_ (rt_ (nr_ (kq_ (nr_ (JX_roundB_ret (kq_ (nr_ ?_)))))))
     exact False.elim c27lu0_
    ·have h13 := of_decide_eq_false h13
     refine jp_ 13 rfl mv_ (jq_ 14 rfl (x_indexAddr_at (k := 0) (off := 0) (cells_row 0 rfl) Tryz.underlying25 Ty.sz27 rfl rfl lt_ c27lu2_ rfl) (jp_ 15 rfl (x_fieldAddr Ty.fi27_1 rfl (adr_add _ _ _)) (jq_ 16 rfl (ldF (k := 0) 1 Change.enc_len (cells_row 0 rfl) Ty.sc3) (jp_ 17 rfl (fA 0 Ty.fi23_0) (jq_ 18 rfl (ld_ 4 Ty.sc3) (jp_ 19 rfl (x_neq_i rfl rfl) ?_ (hw := ⟨_, rfl, rfl⟩)) (hw := ⟨_, rfl, rfl⟩)) (hw := ⟨_, rfl, rfl⟩)) (hw := ⟨_, rfl, rfl⟩)) (hw := ⟨_, rfl, rfl⟩)) (hw := ⟨_, rfl, rfl⟩)) (hw := ⟨_, rfl, rfl⟩)
     refine jt_ 20 (vB (decide ((((R27.plan ds base alts (l.getD k default)).1).getD 0 default).Id ≠ base.Id))) rfl (fun _ _ => rfl) ?_
     refine jp_ 21 rfl mv_ ?_
     refine jb_ 58 (fun h14 => ?_) (fun h14 => ?_)
     ·have h14 := of_decide_eq_true h14
      refine js2_ 22 rfl (js2_ 23 rfl (js2_ 24 rfl (js2_ 25 rfl (js2_ 26 rfl (js2_ 27 rfl (js2_ 28 rfl ?_))))))
      refine jt_ 29 (vB true) rfl (fun _ _ => rfl) ?_
      refine jp_ 30 rfl mv_ (js2_ 31 rfl (js2_ 32 rfl (js2_ 33 rfl (js2_ 34 rfl (js2_ 35 rfl (js2_ 36 rfl (js2_ 37 rfl ?_)))))))
      refine jt_ 38 (vB true) rfl (fun _ _ => rfl) ?_
      refine JA_done (by kernel_rfl) gm_ ?_
      refine n_ (ift (q_ (g_ (r_ (ldN 2 [vL dsA ds.length dsC, Value.pointer none] Ty.ag33 Ty.sz33) (o_ (stG 3 Ty.sz33 ?_))))))
      refine s_ av_ (z_ (xk_ [1, 3, 6, 8, 16, 17, 18, 10, 11, 7] ?_))
      refine n_ (rt_ (nr_ (kq_ (nr_ (JX_roundB_ret (kq_ (nr_ ?_)))))))
      exact False.elim c27lu0_
     ·have h14 := of_decide_eq_false h14
      refine jp_ 22 rfl mv_ (jq_ 23 rfl (x_indexAddr_at (k := 0) (off := 0) (cells_row 0 rfl) Tryz.underlying25 Ty.sz27 rfl rfl lt_ c27lu2_ rfl) (jp_ 24 rfl (x_fieldAddr Ty.fi27_0 rfl rfl) (jq_ 25 rfl (ldF (k := 0) 0 Change.enc_len (cells_row 0 rfl) Ty.sc3) (jp_ 26 rfl (fA 0 Ty.fi27_0) (jq_ 27 rfl (ld_ 1 Ty.sc3) (jp_ 28 rfl (x_neq_i rfl rfl) ?_ (hw := ⟨_, rfl, rfl⟩)) (hw := ⟨_, rfl, rfl⟩)) (hw := ⟨_, rfl, rfl⟩)) (hw := ⟨_, rfl, rfl⟩)) (hw := ⟨_, rfl, rfl⟩)) (hw := ⟨_, rfl, rfl⟩)) (hw := ⟨_, rfl, rfl⟩)
      refine jt_ 29 (vB (decide ((((R27.plan ds base alts (l.getD k default)).1).getD 0 default).Kind ≠ (l.getD k default).Kind))) rfl (fun _ _ => rfl) ?_
      refine jp_ 30 rfl mv_ ?_
      refine jb_ 67 (fun h15 => ?_) (fun h15 => ?_)
      ·have h15 := of_decide_eq_true h15
       refine js2_ 31 rfl (js2_ 32 rfl (js2_ 33 rfl (js2_ 34 rfl (js2_ 35 rfl (js2_ 36 rfl (js2_ 37 rfl ?_))))))
       refine jt_ 38 (vB true) rfl (fun _ _ => rfl) ?_
       refine JA_done (by kernel_rfl) gm_ ?_
       refine n_ (ift (q_ (g_ (r_ (ldN 2 [vL dsA ds.length dsC, Value.pointer none] Ty.ag33 Ty.sz33) (o_ (stG 3 Ty.sz33 ?_))))))
       refine s_ av_ (z_ (xk_ [1, 3, 6, 8, 16, 17, 18, 10, 11, 7] ?_))
       refine n_ (rt_ (nr_ (kq_ (nr_ (JX_roundB_ret (kq_ (nr_ ?_)))))))
       exact False.elim c27lu0_
      ·have h15 := of_decide_eq_false h15
       refine jp_ 31 rfl mv_ (jq_ 32 rfl (x_indexAddr_at (k := 0) (off := 0) (cells_row 0 rfl) Tryz.underlying25 Ty.sz27 rfl rfl lt_ c27lu2_ rfl) (jp_ 33 rfl (x_fieldAddr Ty.fi27_3 rfl (adr_add _ _ _)) (jq_ 34 rfl (ldF (k := 0) 3 Change.enc_len (cells_row 0 rfl) Ty.sc9) (jp_ 35 rfl (fA 3 Ty.fi27_3) (jq_ 36 rfl (ld_ 1 Ty.sc9) (jp_ 37 rfl (x_neq_s rfl rfl) ?_ (hw := ⟨_, rfl, rfl⟩)) (hw := ⟨_, rfl, rfl⟩)) (hw := ⟨_, rfl, rfl⟩)) (hw := ⟨_, rfl, rfl⟩)) (hw := ⟨_, rfl, rfl⟩)) (hw := ⟨_, rfl, rfl⟩)) (hw := ⟨_, rfl, rfl⟩)
       refine jt_ 38 (vB (decide ((((R27.plan ds base alts (l.getD k default)).1).getD 0 default).Record ≠ (l.getD k default).Record))) rfl (fun _ _ => rfl) ?_
       refine JA_done (by kernel_rfl) gm_ ?_
       refine n_ ?_
       refine ifd (fun h16w h16 => ?_) (fun h16w h16 => ?_)
       ·refine q_ (g_ (r_ (ldN 2 [vL dsA ds.length dsC, Value.pointer none] Ty.ag33 Ty.sz33) (o_ (stG 3 Ty.sz33 ?_))))
        refine s_ av_ (z_ (xk_ [1, 3, 6, 8, 16, 17, 18, 10, 11, 7] ?_))
        refine n_ (rt_ (nr_ (kq_ (nr_ (JX_roundB_ret (kq_ (nr_ ?_)))))))
        exact False.elim c27lu0_
       ·refine sk_ (n_ (q_ (g_ (s_ mv_ (s_ (lnS Tryz.underlying25) (s_ mv_ (z_ (xk_ [1, 3, 6, 8, 16, 17, 18, 10, 77, 78, 79] ?_))))))))
        refine n_ (k_ ?_)
        refine J_loopB (X := Nat × (List Data) × (Option Addr) × Nat) (fun (⟨j, ds2, ds2A, ds2C⟩ : Nat × (List Data) × (Option Addr) × Nat) => (j ≤ (R27.plan ds base alts (l.getD k default)).1.length) ∧ (R27.Mid base alts (l.getD k default) k ds j ds2)) (fun (⟨j, ds2, ds2A, ds2C⟩ : Nat × (List Data) × (Option Addr) × Nat) wx => RO (Lown [Ent.row (.slice A6 ((R27.plan ds base alts (l.getD k default)).1).length cc7) 27 5 ((R27.plan ds base alts (l.getD k default)).1).length (((R27.plan ds base alts (l.getD k default)).1).flatMap Change.enc), Ent.blk b5 27 (Change.enc (l.getD k default)), Ent.blk b3 33 [vL ds2A ds2.length ds2C, Value.pointer none], Ent.blk b2 33 [vL none 0 0, Value.pointer none], Ent.blk b1 23 (DataSet.enc base)] ++ List.range w.heap.size) wx ds2A (ds2.flatMap Data.enc) ∧ (∀ i : Nat, RO (Lown [Ent.row (.slice A6 ((R27.plan ds base alts (l.getD k default)).1).length cc7) 27 5 ((R27.plan ds base alts (l.getD k default)).1).length (((R27.plan ds base alts (l.getD k default)).1).flatMap Change.enc), Ent.blk b5 27 (Change.enc (l.getD k default)), Ent.blk b3 33 [vL ds2A ds2.length ds2C, Value.pointer none], Ent.blk b2 33 [vL none 0 0, Value.pointer none], Ent.blk b1 23 (DataSet.enc base)] ++ List.range w.heap.size) wx (ds2.getD i default).PairsA (((ds2.getD i default).Pairs).flatMap Pair.enc))) (fun (⟨j, ds2, ds2A, ds2C⟩ : Nat × (List Data) × (Option Addr) × Nat) => [(1, vL altsA alts.length altsC), (3, pB b1 0), (6, pB b2 0), (8, pB b3 0), (16, vL lA l.length lC), (17, vI ((l.length : Nat) : Int)), (18, vI ((k : Nat) : Int)), (10, pB b5 0), (77, vL A6 ((R27.plan ds base alts (l.getD k default)).1.length) cc7), (78, vI (((R27.plan ds base alts (l.getD k default)).1.length : Nat) : Int)), (79, vI ((j : Nat) : Int))]) (fun (⟨j, ds2, ds2A, ds2C⟩ : Nat × (List Data) × (Option Addr) × Nat) => [Ent.row (.slice A6 ((R27.plan ds base alts (l.getD k default)).1).length cc7) 27 5 ((R27.plan ds base alts (l.getD k default)).1).length (((R27.plan ds base alts (l.getD k default)).1).flatMap Change.enc), Ent.blk b5 27 (Change.enc (l.getD k default)), Ent.blk b3 33 [vL ds2A ds2.length ds2C, Value.pointer none], Ent.blk b2 33 [vL none 0 0, Value.pointer none], Ent.blk b1 23 (DataSet.enc base)]) (fun (⟨j, ds2, ds2A, ds2C⟩ : Nat × (List Data) × (Option Addr) × Nat) => (R27.plan ds base alts (l.getD k default)).1.length - j) ((0, ds, dsA, dsC) : Nat × (List Data) × (Option Addr) × Nat) ?_ ⟨rfl, rfl, rfl, rfl, rfl, rfl, rfl, rfl, rfl, rfl, rfl, trivial⟩ (fun _ h => h) (fun wx hw => ⟨(dsR0.againF (hw)), (fun i => (dsN0 i).againF (hw))⟩) ?_
        ·try dsimp only
         refine ⟨?_, ?_⟩
         ·first | rfl | omega | (simp_all; done) | (simp_all; omega)
         ·exact R27.mid_start i1_1.1
        rintro ⟨j, ds2, ds2A, ds2C⟩ wb2 hI2 hW2 hB2
        have altsR := altsR.again hB2
        have lR := lR.again hB2
        have dsR0 := dsR0.againF hB2
        have dsR := dsR.again hB2
        have dsN0 := fun i => (dsN0 i).againF hB2
        have dsN := fun i => (dsN i).again hB2
        obtain ⟨ds2R0, ds2N0⟩ := hW2
        have ds2R := ds2R0.fromF
        have ds2N := fun i => (ds2N0 i).fromF
        obtain ⟨i2_0, i2_1⟩ := hI2
        try dsimp only at i2_0
        try dsimp only at i2_1
        have ht0 := i2_1.2.1
        have ht2 := i2_1.2.2.2
        have hx := R27.plan_at (Decidable.not_not.1 (of_decide_eq_false h10w)) hc j
        have hpl := (R27.plan_head (Decidable.not_not.1 (of_decide_eq_false h10w))).1
        try dsimp only
        refine q_ (g_ (s_ (x_lss_i rfl rfl) (z_ (n_ (q_ ?_)))))
        refine ifd (fun h17w h17 => ?_) (fun h17w h17 => ?_)
        ·refine sk_ (n_ (q_ (k_ (q_ (g_ (s_ mv_ (r_ (x_indexAddr_at (k := j) (off := j * 5) (cells_row 0 rfl) Tryz.underlying25 Ty.sz27 rfl rfl lt_ c27lu2_ rfl) (r_ (ldFN Change.enc_len (cells_row 0 rfl) Ty.ag27 Ty.sz27) (o_ (al_ Ty.ze27 fun b18 => ?_))))))))))
         refine s_ av_ (o_ (stG 0 Ty.sz27 ?_))
         refine z_ (n_ (q_ (q_ ?_)))
         refine drB [] 31 Ty.mixed ?_
         refine jp_ 0 rfl mv_ (jp_ 1 rfl (x_gtr_i rfl rfl) (jp_ 2 rfl mv_ ?_))
         refine jb_ 86 (fun h19 => ?_) (fun h19 => ?_)
         ·have h19 := of_decide_eq_true h19
          refine jp_ 3 rfl (fA 0 Ty.fi27_0) (jq_ 4 rfl (ld_ 0 Ty.sc3) (jp_ 5 rfl (x_neq_i rfl rfl) ?_ (hw := ⟨_, rfl, rfl⟩)) (hw := ⟨_, rfl, rfl⟩)) (hw := ⟨_, rfl, rfl⟩)
          refine jt_ 6 (vB (decide ((((R27.plan ds base alts (l.getD k default)).1).getD j default).Kind ≠ 3))) rfl (fun _ _ => rfl) ?_
          refine jp_ 7 rfl mv_ ?_
          refine jb_ 91 (fun h20 => ?_) (fun h20 => ?_)
          ·have h20 := of_decide_eq_true h20
           refine jp_ 8 rfl (fA 2 Ty.fi27_2) (jq_ 9 rfl (ld_ 0 Ty.sc9) (jp_ 10 rfl (x_len_s rfl Tryz.underlying9) (jp_ 11 rfl (fA 2 Ty.fi27_2) (jq_ 12 rfl (ld_ 2 Ty.sc9) (jp_ 13 rfl (x_len_s rfl Tryz.underlying9) (jp_ 14 rfl (x_lss_i rfl rfl) (jp_ 15 rfl mv_ ?_ (hw := ⟨_, rfl, rfl⟩)) (hw := ⟨_, rfl, rfl⟩)) (hw := ⟨_, rfl, rfl⟩)) (hw := ⟨_, rfl, rfl⟩)) (hw := ⟨_, rfl, rfl⟩)) (hw := ⟨_, rfl, rfl⟩)) (hw := ⟨_, rfl, rfl⟩)) (hw := ⟨_, rfl, rfl⟩)
           refine jb_ 99 (fun h21 => ?_) (fun h21 => ?_)
           ·have h21 := of_decide_eq_true h21
            refine js2_ 16 rfl (js2_ 17 rfl (js2_ 18 rfl (js2_ 19 rfl (js2_ 20 rfl (js2_ 21 rfl (js2_ 22 rfl (js2_ 23 rfl (js2_ 24 rfl (js2_ 25 rfl ?_)))))))))
            refine js2_ 26 rfl (js2_ 27 rfl (js2_ 28 rfl ?_))
            refine JA_take 29 (vB true) rfl (by kernel_rfl) (by kernel_rfl) (by kernel_rfl) rfl (fun _ _ _ h => h) rfl ⟨_, rfl, rfl⟩ (fun _ _ => rfl) ?_
            refine jt_ 30 (vB true) rfl (fun _ _ => rfl) ?_
            refine JA_done (by kernel_rfl) gm_ ?_
            refine n_ (ift (q_ (g_ (r_ (ldN 3 [vL ds2A ds2.length ds2C, Value.pointer none] Ty.ag33 Ty.sz33) (o_ (stG 4 Ty.sz33 ?_))))))
            refine s_ av_ (z_ (xk_ [1, 3, 6, 8, 16, 17, 18, 10, 77, 78, 79, 14, 7] ?_))
            refine n_ (rt_ (nr_ (kq_ (nr_ (JX_roundB_ret (kq_ (kq_ (nr_ (JX_roundB_ret (kq_ (nr_ ?_)))))))))))
            exact False.elim c27lu0_
           ·have h21 := of_decide_eq_false h21
            refine jp_ 16 rfl (fA 2 Ty.fi27_2) (jq_ 17 rfl (ld_ 0 Ty.sc9) (jp_ 18 rfl (fA 2 Ty.fi27_2) (jq_ 19 rfl (ld_ 0 Ty.sc9) (jp_ 20 rfl (x_len_s rfl Tryz.underlying9) (jp_ 21 rfl (fA 2 Ty.fi27_2) (jq_ 22 rfl (ld_ 2 Ty.sc9) (jp_ 23 rfl (x_len_s rfl Tryz.underlying9) (jp_ 24 rfl (x_sub_i (a := ((((((R27.plan ds base alts (l.getD k default)).1).getD j default).Key).length : Nat) : Int)) (b := ((((l.getD k default).Key).length : Nat) : Int)) rfl rfl (by omega) (by omega)) ?_ (hw := ⟨_, rfl, rfl⟩)) (hw := ⟨_, rfl, rfl⟩)) (hw := ⟨_, rfl, rfl⟩)) (hw := ⟨_, rfl, rfl⟩)) (hw := ⟨_, rfl, rfl⟩)) (hw := ⟨_, rfl, rfl⟩)) (hw := ⟨_, rfl, rfl⟩)) (hw := ⟨_, rfl, rfl⟩)) (hw := ⟨_, rfl, rfl⟩)
            refine jp_ 25 rfl (x_sub_s (lo := (((((((R27.plan ds base alts (l.getD k default)).1).getD j default).Key).length : Nat) : Int) - ((((l.getD k default).Key).length : Nat) : Int)).toNat) (hi := ((((R27.plan ds base alts (l.getD k default)).1).getD j default).Key).length) rfl Tryz.underlying9 (.inl (lo_i (by omega))) (.inr ⟨rfl, rfl⟩) lt_ (by first | omega | (simp only [sub, List.length_drop, List.length_take]; omega) | (simp; omega) | (simp_all; omega))) (jp_ 26 rfl (fA 2 Ty.fi27_2) (jq_ 27 rfl (ld_ 2 Ty.sc9) (jp_ 28 rfl (x_neq_s rfl rfl) ?_ (hw := ⟨_, rfl, rfl⟩)) (hw := ⟨_, rfl, rfl⟩)) (hw := ⟨_, rfl, rfl⟩)) (hw := ⟨_, rfl, rfl⟩)
            refine JA_take 29 (vB (decide (sub ((((R27.plan ds base alts (l.getD k default)).1).getD j default).Key) ((((((((R27.plan ds base alts (l.getD k default)).1).getD j default).Key).length : Nat) : Int) - ((((l.getD k default).Key).length : Nat) : Int)).toNat) (((((R27.plan ds base alts (l.getD k default)).1).getD j default).Key).length) ≠ (l.getD k default).Key))) rfl (by kernel_rfl) (by kernel_rfl) (by kernel_rfl) rfl (fun _ _ _ h => h) rfl ⟨_, rfl, rfl⟩ (fun _ _ => rfl) ?_
            refine jt_ 30 (vB (decide (sub ((((R27.plan ds base alts (l.getD k default)).1).getD j default).Key) ((((((((R27.plan ds base alts (l.getD k default)).1).getD j default).Key).length : Nat) : Int) - ((((l.getD k default).Key).length : Nat) : Int)).toNat) (((((R27.plan ds base alts (l.getD k default)).1).getD j default).Key).length) ≠ (l.getD k default).Key))) rfl (fun _ _ => rfl) ?_
            refine JA_done (by kernel_rfl) gm_ ?_
            refine n_ ?_
            refine ifd (fun h22w h22 => ?_) (fun h22w h22 => ?_)
            ·refine q_ (g_ (r_ (ldN 3 [vL ds2A ds2.length ds2C, Value.pointer none] Ty.ag33 Ty.sz33) (o_ (stG 4 Ty.sz33 ?_))))
             refine s_ av_ (z_ (xk_ [1, 3, 6, 8, 16, 17, 18, 10, 77, 78, 79, 14, 7] ?_))
             refine n_ (rt_ (nr_ (kq_ (nr_ (JX_roundB_ret (kq_ (kq_ (nr_ (JX_roundB_ret (kq_ (nr_ ?_)))))))))))
             exact False.elim c27lu0_
            ·refine sk_ (n_ (g_ (r_ (ldN 3 [vL ds2A ds2.length ds2C, Value.pointer none] Ty.ag33 Ty.sz33) (r_ (ldN 0 (Change.enc (((R27.plan ds base alts (l.getD k default)).1).getD j default)) Ty.ag27 Ty.sz27) (s_ (fA 2 Ty.fi27_2) (r_ (ld_ 2 Ty.sc9) ?_))))))
             refine c1 (cl_ Ty.ca9) (fun w hS => f9_ok ds2 ds2A ds2C _ _ w (rno ds2R hS) (fun i => (ds2N i).on hS (fun _ h => by cases h)) hy_ c27lu3_ hy_) ?_
             rintro _ _ ⟨A23, cc24, e25, e26, rfl, rfl⟩
             refine o_ (stG 5 Ty.sz33 ?_)
             refine z_ (kx_ (n_ (g_ (s_ (x_add_n (a := j) (b := 1) rfl rfl (by omega)) (s_ mv_ (z_ ?_))))))
             refine JX_roundB ((j + 1, (R27.doD ds2 (((R27.plan ds base alts (l.getD k default)).1).getD j default) ((l.getD k default).Key) e25 e26), A23, cc24) : Nat × (List Data) × (Option Addr) × Nat) ?_ ?_ ⟨rfl, rfl, rfl, rfl, rfl, rfl, rfl, rfl, rfl, rfl, rfl, trivial⟩ (fun _ _ h => (hB2.back _ _ h)) (fun _ h => h.keep [false, false, false, true, true, true, true, true] rfl) (fun wx hw => ⟨(RO.of_rowF (Lc := [Ent.row (.slice A6 ((R27.plan ds base alts (l.getD k default)).1).length cc7) 27 5 ((R27.plan ds base alts (l.getD k default)).1).length (((R27.plan ds base alts (l.getD k default)).1).flatMap Change.enc), Ent.blk b5 27 (Change.enc (l.getD k default)), Ent.blk b3 33 [vL A23 ((R27.doD ds2 (((R27.plan ds base alts (l.getD k default)).1).getD j default) ((l.getD k default).Key) e25 e26).length) cc24, Value.pointer none], Ent.blk b2 33 [vL none 0 0, Value.pointer none], Ent.blk b1 23 (DataSet.enc base)]) (Lr := [Ent.row (.slice A23 (R27.doD ds2 (((R27.plan ds base alts (l.getD k default)).1).getD j default) ((l.getD k default).Key) e25 e26).length cc24) 56 2 (R27.doD ds2 (((R27.plan ds base alts (l.getD k default)).1).getD j default) ((l.getD k default).Key) e25 e26).length ((R27.doD ds2 (((R27.plan ds base alts (l.getD k default)).1).getD j default) ((l.getD k default).Key) e25 e26).flatMap Data.enc)]) ((((((hw.front 7 _ rfl).front 7 _ rfl).front 7 _ rfl).front 7 _ rfl).front 7 _ rfl).keep [true, true, true, true, true, true, false, false] rfl) (hB1.back _ _ (hB2.back _ _ ((((((hw.front 7 _ rfl).front 7 _ rfl).front 7 _ rfl).front 7 _ rfl).front 7 _ rfl).keep [true, true, true, true, true, true, false, false] rfl))) 0 rfl), (R27.doD_ro (fun i => (ds2N0 i).againF (hw.keep [false, false, false, true, true, true, true, true] rfl)) (RO.of_rowF (Lc := [Ent.row (.slice A6 ((R27.plan ds base alts (l.getD k default)).1).length cc7) 27 5 ((R27.plan ds base alts (l.getD k default)).1).length (((R27.plan ds base alts (l.getD k default)).1).flatMap Change.enc), Ent.blk b5 27 (Change.enc (l.getD k default)), Ent.blk b3 33 [vL A23 ((R27.doD ds2 (((R27.plan ds base alts (l.getD k default)).1).getD j default) ((l.getD k default).Key) e25 e26).length) cc24, Value.pointer none], Ent.blk b2 33 [vL none 0 0, Value.pointer none], Ent.blk b1 23 (DataSet.enc base)]) (Lr := [Ent.row (.slice e25 (R27.chg (R27.ofP ds2 (((R27.plan ds base alts (l.getD k default)).1).getD j default).Id) (((R27.plan ds base alts (l.getD k default)).1).getD j default) ((l.getD k default).Key)).length e26) 54 2 (R27.chg (R27.ofP ds2 (((R27.plan ds base alts (l.getD k default)).1).getD j default).Id) (((R27.plan ds base alts (l.getD k default)).1).getD j default) ((l.getD k default).Key)).length ((R27.chg (R27.ofP ds2 (((R27.plan ds base alts (l.getD k default)).1).getD j default).Id) (((R27.plan ds base alts (l.getD k default)).1).getD j default) ((l.getD k default).Key)).flatMap Pair.enc)]) (((((((hw.front 1 _ rfl).front 7 _ rfl).front 7 _ rfl).front 7 _ rfl).front 7 _ rfl).front 7 _ rfl).keep [true, true, true, true, true, true, false, false] rfl) (hB1.back _ _ (hB2.back _ _ (((((((hw.front 1 _ rfl).front 7 _ rfl).front 7 _ rfl).front 7 _ rfl).front 7 _ rfl).front 7 _ rfl).keep [true, true, true, true, true, true, false, false] rfl))) 0 rfl))⟩)
             ·try dsimp only
              refine ⟨?_, ?_⟩
              ·first | rfl | omega | (simp_all; done) | (simp_all; omega)
              ·exact c27lu4_
             ·try dsimp only
              first | omega | (simp; omega) | (simp_all; omega)
          ·have h20 := of_decide_eq_false h20
           refine js2_ 8 rfl (js2_ 9 rfl (js2_ 10 rfl (js2_ 11 rfl (js2_ 12 rfl (js2_ 13 rfl (js2_ 14 rfl (js2_ 15 rfl (ju_ 16 rfl (ju_ 17 rfl ?_)))))))))
           refine ju_ 18 rfl (ju_ 19 rfl (ju_ 20 rfl (ju_ 21 rfl (ju_ 22 rfl (ju_ 23 rfl (ju_ 24 rfl (ju_ 25 rfl (ju_ 26 rfl (ju_ 27 rfl ?_)))))))))
           refine ju_ 28 rfl (js2_ 29 rfl ?_)
           refine jt_ 30 (vB false) rfl (fun _ _ => rfl) ?_
           refine JA_done (by kernel_rfl) gm_ ?_
           refine n_ (iff_ (sk_ (n_ (g_ (r_ (ldN 3 [vL ds2A ds2.length ds2C, Value.pointer none] Ty.ag33 Ty.sz33) (r_ (ldN 0 (Change.enc (((R27.plan ds base alts (l.getD k default)).1).getD j default)) Ty.ag27 Ty.sz27) (s_ (fA 2 Ty.fi27_2) (r_ (ld_ 2 Ty.sc9) ?_))))))))
           refine c1 (cl_ Ty.ca9) (fun w hS => f9_ok ds2 ds2A ds2C _ _ w (rno ds2R hS) (fun i => (ds2N i).on hS (fun _ h => by cases h)) hy_ c27lu3_ hy_) ?_
           rintro _ _ ⟨A27, cc28, e29, e30, rfl, rfl⟩
           refine o_ (stG 5 Ty.sz33 ?_)
           refine z_ (kx_ (n_ (g_ (s_ (x_add_n (a := j) (b := 1) rfl rfl (by omega)) (s_ mv_ (z_ ?_))))))
           refine JX_roundB ((j + 1, (R27.doD ds2 (((R27.plan ds base alts (l.getD k default)).1).getD j default) ((l.getD k default).Key) e29 e30), A27, cc28) : Nat × (List Data) × (Option Addr) × Nat) ?_ ?_ ⟨rfl, rfl, rfl, rfl, rfl, rfl, rfl, rfl, rfl, rfl, rfl, trivial⟩ (fun _ _ h => (hB2.back _ _ h)) (fun _ h => h.keep [false, false, false, true, true, true, true, true] rfl) (fun wx hw => ⟨(RO.of_rowF (Lc := [Ent.row (.slice A6 ((R27.plan ds base alts (l.getD k default)).1).length cc7) 27 5 ((R27.plan ds base alts (l.getD k default)).1).length (((R27.plan ds base alts (l.getD k default)).1).flatMap Change.enc), Ent.blk b5 27 (Change.enc (l.getD k default)), Ent.blk b3 33 [vL A27 ((R27.doD ds2 (((R27.plan ds base alts (l.getD k default)).1).getD j default) ((l.getD k default).Key) e29 e30).length) cc28, Value.pointer none], Ent.blk b2 33 [vL none 0 0, Value.pointer none], Ent.blk b1 23 (DataSet.enc base)]) (Lr := [Ent.row (.slice A27 (R27.doD ds2 (((R27.plan ds base alts (l.getD k default)).1).getD j default) ((l.getD k default).Key) e29 e30).length cc28) 56 2 (R27.doD ds2 (((R27.plan ds base alts (l.getD k default)).1).getD j default) ((l.getD k default).Key) e29 e30).length ((R27.doD ds2 (((R27.plan ds base alts (l.getD k default)).1).getD j default) ((l.getD k default).Key) e29 e30).flatMap Data.enc)]) ((((((hw.front 7 _ rfl).front 7 _ rfl).front 7 _ rfl).front 7 _ rfl).front 7 _ rfl).keep [true, true, true, true, true, true, false, false] rfl) (hB1.back _ _ (hB2.back _ _ ((((((hw.front 7 _ rfl).front 7 _ rfl).front 7 _ rfl).front 7 _ rfl).front 7 _ rfl).keep [true, true, true, true, true, true, false, false] rfl))) 0 rfl), (R27.doD_ro (fun i => (ds2N0 i).againF (hw.keep [false, false, false, true, true, true, true, true] rfl)) (RO.of_rowF (Lc := [Ent.row (.slice A6 ((R27.plan ds base alts (l.getD k default)).1).length cc7) 27 5 ((R27.plan ds base alts (l.getD k default)).1).length (((R27.plan ds base alts (l.getD k default)).1).flatMap Change.enc), Ent.blk b5 27 (Change.enc (l.getD k default)), Ent.blk b3 33 [vL A27 ((R27.doD ds2 (((R27.plan ds base alts (l.getD k default)).1).getD j default) ((l.getD k default).Key) e29 e30).length) cc28, Value.pointer none], Ent.blk b2 33 [vL none 0 0, Value.pointer none], Ent.blk b1 23 (DataSet.enc base)]) (Lr := [Ent.row (.slice e29 (R27.chg (R27.ofP ds2 (((R27.plan ds base alts (l.getD k default)).1).getD j default).Id) (((R27.plan ds base alts (l.getD k default)).1).getD j default) ((l.getD k default).Key)).length e30) 54 2 (R27.chg (R27.ofP ds2 (((R27.plan ds base alts (l.getD k default)).1).getD j default).Id) (((R27.plan ds base alts (l.getD k default)).1).getD j default) ((l.getD k default).Key)).length ((R27.chg (R27.ofP ds2 (((R27.plan ds base alts (l.getD k default)).1).getD j default).Id) (((R27.plan ds base alts (l.getD k default)).1).getD j default) ((l.getD k default).Key)).flatMap Pair.enc)]) (((((((hw.front 1 _ rfl).front 7 _ rfl).front 7 _ rfl).front 7 _ rfl).front 7 _ rfl).front 7 _ rfl).keep [true, true, true, true, true, true, false, false] rfl) (hB1.back _ _ (hB2.back _ _ (((((((hw.front 1 _ rfl).front 7 _ rfl).front 7 _ rfl).front 7 _ rfl).front 7 _ rfl).front 7 _ rfl).keep [true, true, true, true, true, true, false, false] rfl))) 0 rfl))⟩)
           ·try dsimp only
            refine ⟨?_, ?_⟩
            ·first | rfl | omega | (simp_all; done) | (simp_all; omega)
            ·exact c27lu4_
           ·try dsimp only
            first | omega | (simp; omega) | (simp_all; omega)
         ·have h19 := of_decide_eq_false h19
          refine js2_ 3 rfl (js2_ 4 rfl (js2_ 5 rfl ?_))
          refine jt_ 6 (vB false) rfl (fun _ _ => rfl) ?_
          refine jp_ 7 rfl mv_ (js2_ 8 rfl (js2_ 9 rfl (js2_ 10 rfl (js2_ 11 rfl (js2_ 12 rfl (js2_ 13 rfl (js2_ 14 rfl (js2_ 15 rfl (ju_ 16 rfl ?_)))))))))
          refine ju_ 17 rfl (ju_ 18 rfl (ju_ 19 rfl (ju_ 20 rfl (ju_ 21 rfl (ju_ 22 rfl (ju_ 23 rfl (ju_ 24 rfl (ju_ 25 rfl (ju_ 26 rfl ?_)))))))))
          refine ju_ 27 rfl (ju_ 28 rfl (js2_ 29 rfl ?_))
          refine jt_ 30 (vB false) rfl (fun _ _ => rfl) ?_
          refine JA_done (by kernel_rfl) gm_ ?_
          refine n_ (iff_ (sk_ (n_ (g_ (r_ (ldN 3 [vL ds2A ds2.length ds2C, Value.pointer none] Ty.ag33 Ty.sz33) (r_ (ldN 0 (Change.enc (((R27.plan ds base alts (l.getD k default)).1).getD j default)) Ty.ag27 Ty.sz27) (s_ (fA 2 Ty.fi27_2) (r_ (ld_ 2 Ty.sc9) ?_))))))))
          refine c1 (cl_ Ty.ca9) (fun w hS => f9_ok ds2 ds2A ds2C _ _ w (rno ds2R hS) (fun i => (ds2N i).on hS (fun _ h => by cases h)) hy_ c27lu3_ hy_) ?_
          rintro _ _ ⟨A31, cc32, e33, e34, rfl, rfl⟩
          refine o_ (stG 5 Ty.sz33 ?_)
          refine z_ (kx_ (n_ (g_ (s_ (x_add_n (a := j) (b := 1) rfl rfl (by omega)) (s_ mv_ (z_ ?_))))))
          refine JX_roundB ((j + 1, (R27.doD ds2 (((R27.plan ds base alts (l.getD k default)).1).getD j default) ((l.getD k default).Key) e33 e34), A31, cc32) : Nat × (List Data) × (Option Addr) × Nat) ?_ ?_ ⟨rfl, rfl, rfl, rfl, rfl, rfl, rfl, rfl, rfl, rfl, rfl, trivial⟩ (fun _ _ h => (hB2.back _ _ h)) (fun _ h => h.keep [false, false, false, true, true, true, true, true] rfl) (fun wx hw => ⟨(RO.of_rowF (Lc := [Ent.row (.slice A6 ((R27.plan ds base alts (l.getD k default)).1).length cc7) 27 5 ((R27.plan ds base alts (l.getD k default)).1).length (((R27.plan ds base alts (l.getD k default)).1).flatMap Change.enc), Ent.blk b5 27 (Change.enc (l.getD k default)), Ent.blk b3 33 [vL A31 ((R27.doD ds2 (((R27.plan ds base alts (l.getD k default)).1).getD j default) ((l.getD k default).Key) e33 e34).length) cc32, Value.pointer none], Ent.blk b2 33 [vL none 0 0, Value.pointer none], Ent.blk b1 23 (DataSet.enc base)]) (Lr := [Ent.row (.slice A31 (R27.doD ds2 (((R27.plan ds base alts (l.getD k default)).1).getD j default) ((l.getD k default).Key) e33 e34).length cc32) 56 2 (R27.doD ds2 (((R27.plan ds base alts (l.getD k default)).1).getD j default) ((l.getD k default).Key) e33 e34).length ((R27.doD ds2 (((R27.plan ds base alts (l.getD k default)).1).getD j default) ((l.getD k default).Key) e33 e34).flatMap Data.enc)]) ((((((hw.front 7 _ rfl).front 7 _ rfl).front 7 _ rfl).front 7 _ rfl).front 7 _ rfl).keep [true, true, true, true, true, true, false, false] rfl) (hB1.back _ _ (hB2.back _ _ ((((((hw.front 7 _ rfl).front 7 _ rfl).front 7 _ rfl).front 7 _ rfl).front 7 _ rfl).keep [true, true, true, true, true, true, false, false] rfl))) 0 rfl), (R27.doD_ro (fun i => (ds2N0 i).againF (hw.keep [false, false, false, true, true, true, true, true] rfl)) (RO.of_rowF (Lc := [Ent.row (.slice A6 ((R27.plan ds base alts (l.getD k default)).1).length cc7) 27 5 ((R27.plan ds base alts (l.getD k default)).1).length (((R27.plan ds base alts (l.getD k default)).1).flatMap Change.enc), Ent.blk b5 27 (Change.enc (l.getD k default)), Ent.blk b3 33 [vL A31 ((R27.doD ds2 (((R27.plan ds base alts (l.getD k default)).1).getD j default) ((l.getD k default).Key) e33 e34).length) cc32, Value.pointer none], Ent.blk b2 33 [vL none 0 0, Value.pointer none], Ent.blk b1 23 (DataSet.enc base)]) (Lr := [Ent.row (.slice e33 (R27.chg (R27.ofP ds2 (((R27.plan ds base alts (l.getD k default)).1).getD j default).Id) (((R27.plan ds base alts (l.getD k default)).1).getD j default) ((l.getD k default).Key)).length e34) 54 2 (R27.chg (R27.ofP ds2 (((R27.plan ds base alts (l.getD k default)).1).getD j default).Id) (((R27.plan ds base alts (l.getD k default)).1).getD j default) ((l.getD k default).Key)).length ((R27.chg (R27.ofP ds2 (((R27.plan ds base alts (l.getD k default)).1).getD j default).Id) (((R27.plan ds base alts (l.getD k default)).1).getD j default) ((l.getD k default).Key)).flatMap Pair.enc)]) (((((((hw.front 1 _ rfl).front 7 _ rfl).front 7 _ rfl).front 7 _ rfl).front 7 _ rfl).front 7 _ rfl).keep [true, true, true, true, true, true, false, false] rfl) (hB1.back _ _ (hB2.back _ _ (((((((hw.front 1 _ rfl).front 7 _ rfl).front 7 _ rfl).front 7 _ rfl).front 7 _ rfl).front 7 _ rfl).keep [true, true, true, true, true, true, false, false] rfl))) 0 rfl))⟩)
          ·try dsimp only
           refine ⟨?_, ?_⟩
           ·first | rfl | omega | (simp_all; done) | (simp_all; omega)
           ·exact c27lu4_
          ·try dsimp only
           first | omega | (simp; omega) | (simp_all; omega)
        ·refine J_exit (ne_ (JX_roundB_exit (kh_ (kx_ (n_ ?_)))))
         refine g_ (s_ (x_add_n (a := k) (b := 1) rfl rfl (by omega)) (s_ mv_ (z_ ?_)))
         refine JX_roundB ((k + 1, ds2, ds2A, ds2C) : Nat × (List Data) × (Option Addr) × Nat) ?_ ?_ ⟨rfl, rfl, rfl, rfl, rfl, rfl, rfl, trivial⟩ (fun _ _ h => (hB1.back _ _ (hB2.back _ _ h))) (fun _ h => h.keep [false, false, true, true, true] rfl) (fun wx hw => ⟨(ds2R0.againF (hw.keep [false, false, true, true, true] rfl)), (fun i => (ds2N0 i).againF (hw.keep [false, false, true, true, true] rfl))⟩)
         ·try dsimp only
          refine ⟨?_, ?_⟩
          ·first | rfl | omega | (simp_all; done) | (simp_all; omega)
          ·exact c27lu5_
         ·try dsimp only
          first | omega | (simp; omega) | (simp_all; omega)
 ·refine J_exit (ne_ (JX_roundB_exit (kh_ (n_ (q_ ?_)))))
  refine g_ (r_ (ldN 0 [vL dsA ds.length dsC, Value.pointer none] Ty.ag33 Ty.sz33) (o_ (stG 1 Ty.sz33 ?_)))
  refine s_ av_ (z_ (n_ (rt_ ?_)))
  refine JX_retsB [_, _] (Value.tuple #[_, _]) Tryz.results7 (fun w h => ⟨⟨_, rfl, load_blkN 1 [vL dsA ds.length dsC, Value.pointer none] h rfl Ty.ag33 Ty.sz33 rfl⟩, rfl, trivial⟩) rfl _ (fun _ h => h.keep [false, false, false] rfl) (fun _ _ h => (hB1.back _ _ h)) (fun wx hw => ⟨ds, dsA, dsC, ?_, ?_, (dsR0.againF hw).freshF, (fun i => ((dsN0 i).againF hw).freshF), ?_⟩)
  ·rfl
  ·rfl
  ·exact (show k = l.length by omega) ▸ i1_1
end Go.Proofs.YtmbinhhlfbgiaaaGreat

namespace Go.Proofs.YtmbinhhlfbgiaaaGreat
open Go.GV
set_option linter.unusedVariables false
set_option linter.unusedSimpArgs false
theorem l27w0_ {p : Prop} (h : p := by exact cr_ (fun _ h => h.keep [false, true, true, true, true, true, true, true, true, true] rfl)) : p := h
set_option maxRecDepth 20000 in
theorem f5_ok (w : World) : Calls Tryz.prog 5 #[] w (Gives [] w fun v L => v = vB true ∧ L = []) := by
 refine calls_J [] 56 Tryz.func5 rfl Tryz.ntmps5 [] rfl rfl (Give.nil w) ?_
 refine q_ (g_ (s_ av_ (z_ (n_ (q_ (g_ (c0 (cl_ Ty.ca18) (fun w hS => f18_ok w) (s_ mv_ (s_ (ex_ 0) (s_ (ex_ 1) (o_ (al_ Ty.ze23 fun b1 => ?_))))))))))))
 refine o_ (al_ Ty.ze23 fun b2 => ?_)
 refine o_ (stG 1 Ty.sz23 ?_)
 refine o_ (stG 0 Ty.sz23 ?_)
 refine z_ (n_ (q_ (g_ (js_ (vG [vS [48, 48, 55], vS [48, 48, 55, 46, 46, 78, 89]]) (x_build (by kernel_rfl)) (o_ (O_buildSlice (cs := [vS [48, 48, 55], vS [48, 48, 55, 46, 46, 78, 89]]) Tryz.underlying42 Ty.sz54 Ty.ze54 (by decide) (by decide) (by kernel_rfl) fun b3 => ?_))))))
 refine js_ (vG [vI 3, vL (some ⟨b3, 0, none⟩) 1 1]) (x_build (by kernel_rfl)) (js_ (vG [vS [78, 89, 48, 48, 55], vS [78, 89, 48, 48, 55]]) (x_build (by kernel_rfl)) (o_ (O_buildSlice (cs := [vS [78, 89, 48, 48, 55], vS [78, 89, 48, 48, 55]]) Tryz.underlying42 Ty.sz54 Ty.ze54 (by decide) (by decide) (by kernel_rfl) fun b4 => ?_)))
 refine js_ (vG [vI 4, vL (some ⟨b4, 0, none⟩) 1 1]) (x_build (by kernel_rfl)) (o_ (O_buildSlice (cs := [vI 3, vL (some ⟨b3, 0, none⟩) 1 1, vI 4, vL (some ⟨b4, 0, none⟩) 1 1]) Tryz.underlying30 Ty.sz56 Ty.ze56 (by decide) (by decide) (by kernel_rfl) fun b5 => ?_))
 refine js_ (vG [vL (some ⟨b5, 0, none⟩) 2 2, Value.pointer none]) (x_build (by kernel_rfl)) (o_ (al_ Ty.ze33 fun b6 => ?_))
 refine o_ (stG 0 Ty.sz33 ?_)
 refine z_ (n_ (q_ (g_ (r_ (ldN 0 [vL (some ⟨b5, 0, none⟩) 2 2, Value.pointer none] Ty.ag33 Ty.sz33) (js_ (Value.iface 33 (vG [vL (some ⟨b5, 0, none⟩) 2 2, Value.pointer none])) (x_iface rfl (by kernel_rfl)) (r_ (ldN 5 (DataSet.enc R26.exBase) Ty.ag23 Ty.sz23) (r_ (ldN 4 (DataSet.enc R26.exAlt) Ty.ag23 Ty.sz23) (o_ (O_buildSlice (cs := (DataSet.enc R26.exAlt)) Tryz.underlying24 Ty.sz23 Ty.ze23 (by decide) (by decide) (by kernel_rfl) fun b7 => ?_)))))))))
 refine js_ (vG [vI 0, vI 3, vS [48, 48, 55], vS [48, 48, 55, 46, 46, 76, 65], vS []]) (x_build (by kernel_rfl)) ?_
 refine c1 (cl_ Ty.ca8) (fun w hS => f8_ok [(Data.mk 3 [(Pair.mk [48, 48, 55] [48, 48, 55, 46, 46, 78, 89])] (some ⟨b3, 0, none⟩) 1), (Data.mk 4 [(Pair.mk [78, 89, 48, 48, 55] [78, 89, 48, 48, 55])] (some ⟨b4, 0, none⟩) 1)] _ 2 _ [R26.exAlt] _ 1 (Change.mk 0 3 [48, 48, 55] [48, 48, 55, 46, 46, 76, 65] []) w (RO.of_blk hS 2 (off := 0) (m := 4) rfl rfl) (ron_cons (RO.of_blk hS 4 (off := 0) (m := 2) rfl rfl) (ron_cons (RO.of_blk hS 3 (off := 0) (m := 2) rfl rfl) (ron_nil RO.nil))) (RO.of_blk hS 0 (off := 0) (m := 21) rfl rfl) hy_ (by first | assumption | exact R27.pl_of_all rfl) hy_ hy_ hy_ (by first | assumption | exact R27.sh_of_all rfl)) ?_
 rintro _ _ ⟨A8, cc9, rfl, rfl⟩
 have ha10 := R27.plan_len [(Data.mk 3 [(Pair.mk [48, 48, 55] [48, 48, 55, 46, 46, 78, 89])] (some ⟨b3, 0, none⟩) 1), (Data.mk 4 [(Pair.mk [78, 89, 48, 48, 55] [78, 89, 48, 48, 55])] (some ⟨b4, 0, none⟩) 1)] R26.exBase [R26.exAlt] (Change.mk 0 3 [48, 48, 55] [48, 48, 55, 46, 46, 76, 65] [])
 try simp only [List.length_cons, List.length_nil, Nat.zero_add, Nat.reduceAdd, Nat.reduceMul] at ha10
 refine s_ mv_ (s_ (ex_ 0) (s_ (ex_ 1) (s_ av_ (s_ av_ (z_ (xk_ [0, 2, 3, 4, 5] ?_))))))
 refine n_ (q_ (g_ (r_ (ldN 2 [vL (some ⟨b5, 0, none⟩) 2 2, Value.pointer none] Ty.ag33 Ty.sz33) (js_ (Value.iface 33 (vG [vL (some ⟨b5, 0, none⟩) 2 2, Value.pointer none])) (x_iface rfl (by kernel_rfl)) (r_ (ldN 6 (DataSet.enc R26.exAlt) Ty.ag23 Ty.sz23) ?_)))))
 refine c1 (cl_ Ty.ca19) (fun w hS => f19_ok [(Data.mk 3 [(Pair.mk [48, 48, 55] [48, 48, 55, 46, 46, 78, 89])] (some ⟨b3, 0, none⟩) 1), (Data.mk 4 [(Pair.mk [78, 89, 48, 48, 55] [78, 89, 48, 48, 55])] (some ⟨b4, 0, none⟩) 1)] _ 2 _ [78, 89] 9 w (RO.of_blk hS 3 (off := 0) (m := 4) rfl rfl) (ron_cons (RO.of_blk hS 5 (off := 0) (m := 2) rfl rfl) (ron_cons (RO.of_blk hS 4 (off := 0) (m := 2) rfl rfl) (ron_nil RO.nil))) hy_ (by first | assumption | exact R27.pl_of_all rfl) hy_ (by first | assumption | exact R27.sh_of_all rfl)) ?_
 rintro _ _ ⟨A11, cc12, rfl, rfl⟩
 have ha13 := R27.find_len [(Data.mk 3 [(Pair.mk [48, 48, 55] [48, 48, 55, 46, 46, 78, 89])] (some ⟨b3, 0, none⟩) 1), (Data.mk 4 [(Pair.mk [78, 89, 48, 48, 55] [78, 89, 48, 48, 55])] (some ⟨b4, 0, none⟩) 1)] R26.exAlt [78, 89] 9
 try simp only [List.length_cons, List.length_nil, Nat.zero_add, Nat.reduceAdd, Nat.reduceMul] at ha13
 refine s_ mv_ (s_ (ex_ 0) (s_ (ex_ 1) (s_ av_ (s_ av_ (z_ (n_ (q_ (g_ (s_ mv_ (s_ (x_eql_i rfl rfl) (s_ mv_ ?_)))))))))))
 refine and_ 6 (decide (((R27.plan [(Data.mk 3 [(Pair.mk [48, 48, 55] [48, 48, 55, 46, 46, 78, 89])] (some ⟨b3, 0, none⟩) 1), (Data.mk 4 [(Pair.mk [78, 89, 48, 48, 55] [78, 89, 48, 48, 55])] (some ⟨b4, 0, none⟩) 1)] R26.exBase [R26.exAlt] (Change.mk 0 3 [48, 48, 55] [48, 48, 55, 46, 46, 76, 65] [])).1) = [(Change.mk 0 3 [48, 48, 55] [48, 48, 55, 46, 46, 76, 65] []), (Change.mk 1 4 [78, 89, 48, 48, 55] [] []), (Change.mk 0 4 [76, 65, 48, 48, 55] [76, 65, 48, 48, 55] [])])) (fun g14 => ?_) ?_
 ·have g14r := g14
  have g14r := of_decide_eq_true g14r
  refine sg_ g14 mv_ (jg_ g14 (vG [vI 0, vI 3, vS [48, 48, 55], vS [48, 48, 55, 46, 46, 76, 65], vS []]) (x_build (by kernel_rfl)) (jg_ g14 (vG [vI 1, vI 4, vS [78, 89, 48, 48, 55], vS [], vS []]) (x_build (by kernel_rfl)) (jg_ g14 (vG [vI 0, vI 4, vS [76, 65, 48, 48, 55], vS [76, 65, 48, 48, 55], vS []]) (x_build (by kernel_rfl)) (og_ g14 (O_buildSlice (cs := [vI 0, vI 3, vS [48, 48, 55], vS [48, 48, 55, 46, 46, 76, 65], vS [], vI 1, vI 4, vS [78, 89, 48, 48, 55], vS [], vS [], vI 0, vI 4, vS [76, 65, 48, 48, 55], vS [76, 65, 48, 48, 55], vS []]) Tryz.underlying25 Ty.sz27 Ty.ze27 (by decide) (by decide) (by kernel_rfl) fun b15 => ?_)))))
  refine c0g g14 (cl_ Ty.ca20) (fun w hS => f20_ok ((R27.plan [(Data.mk 3 [(Pair.mk [48, 48, 55] [48, 48, 55, 46, 46, 78, 89])] (some ⟨b3, 0, none⟩) 1), (Data.mk 4 [(Pair.mk [78, 89, 48, 48, 55] [78, 89, 48, 48, 55])] (some ⟨b4, 0, none⟩) 1)] R26.exBase [R26.exAlt] (Change.mk 0 3 [48, 48, 55] [48, 48, 55, 46, 46, 76, 65] [])).1) A8 cc9 [(Change.mk 0 3 [48, 48, 55] [48, 48, 55, 46, 46, 76, 65] []), (Change.mk 1 4 [78, 89, 48, 48, 55] [] []), (Change.mk 0 4 [76, 65, 48, 48, 55] [76, 65, 48, 48, 55] [])] _ 3 w (RO.of_row hS 2 rfl) (RO.of_blk hS 0 (off := 0) (m := 15) rfl rfl) hy_) ?_
  exact l27w0_
 refine s_ mv_ ?_
 refine and_ 2 (decide ((R27.find [(Data.mk 3 [(Pair.mk [48, 48, 55] [48, 48, 55, 46, 46, 78, 89])] (some ⟨b3, 0, none⟩) 1), (Data.mk 4 [(Pair.mk [78, 89, 48, 48, 55] [78, 89, 48, 48, 55])] (some ⟨b4, 0, none⟩) 1)] R26.exAlt [78, 89] 9).2 = 0)) (fun g16 => ?_) ?_
 ·have g16r := g16
  have ⟨g16r, h17⟩ := band_true g16r
  have g16r := of_decide_eq_true g16r
  refine sg_ g16 mv_ (sg_ g16 (x_eql_i rfl rfl) ?_)
  exact cr_
 refine s_ mv_ ?_
 refine and_ 3 (decide (((R27.find [(Data.mk 3 [(Pair.mk [48, 48, 55] [48, 48, 55, 46, 46, 78, 89])] (some ⟨b3, 0, none⟩) 1), (Data.mk 4 [(Pair.mk [78, 89, 48, 48, 55] [78, 89, 48, 48, 55])] (some ⟨b4, 0, none⟩) 1)] R26.exAlt [78, 89] 9).1) = [[48, 48, 55]])) (fun g18 => ?_) ?_
 ·have g18r := g18
  have ⟨g18r, h19⟩ := band_true g18r
  have ⟨g18r, h20⟩ := band_true g18r
  have g18r := of_decide_eq_true g18r
  have h19 := of_decide_eq_true h19
  refine sg_ g18 mv_ (og_ g18 (O_buildSlice (cs := [vS [48, 48, 55]]) Tryz.underlying40 Ty.sz9 Ty.ze9 (by decide) (by decide) (by kernel_rfl) fun b21 => ?_))
  refine c0g g18 (cl_ Ty.ca16) (fun w hS => f16_ok ((R27.find [(Data.mk 3 [(Pair.mk [48, 48, 55] [48, 48, 55, 46, 46, 78, 89])] (some ⟨b3, 0, none⟩) 1), (Data.mk 4 [(Pair.mk [78, 89, 48, 48, 55] [78, 89, 48, 48, 55])] (some ⟨b4, 0, none⟩) 1)] R26.exAlt [78, 89] 9).1) A11 cc12 [[48, 48, 55]] _ 1 w (RO.of_row hS 1 rfl) (RO.of_blk hS 0 (off := 0) (m := 1) rfl rfl) hy_) ?_
  exact l27w0_
 refine s_ av_ (z_ (xk_ [0] ?_))
 refine n_ (rt_ ?_)
 exact p1 Tryz.results5 rfl ⟨(eB (by kernel_rfl)), rfl⟩
end Go.Proofs.YtmbinhhlfbgiaaaGreat
