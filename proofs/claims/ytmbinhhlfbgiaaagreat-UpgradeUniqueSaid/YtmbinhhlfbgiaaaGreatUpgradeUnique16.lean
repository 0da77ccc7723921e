/- C27j, Pl27c in one text. -/
import Derived.Test.YtmbinhhlfbgiaaaGreatUpgradeUnique15
import Derived.Test.YtmbinhhlfbgiaaaGreatUpgradeUnique4
import Derived.Test.YtmbinhhlfbgiaaaGreatUpgradeUnique8
namespace Go.Proofs.YtmbinhhlfbgiaaaGreat
open Go.GV
set_option linter.unusedVariables false
set_option linter.unusedSimpArgs false
theorem c27j0_ {p : Prop} (h : p := by first | exact R27.nin (by assumption) (by assumption) | exact R27.nout1 (by assumption) | exact R27.nout2 (by assumption)) : p := h
theorem c27j1_ {p : Prop} (h : p := by first | exact congrArg List.length hd.1 | exact hd.1 | exact hd.2) : p := h
theorem c27j2_ {p : Prop} (h : p := by first | exact R27.do_hit (by omega) i1_1 (by assumption) (by assumption) rfl | exact R27.do_on (by omega) i1_1 (by assumption) | exact R27.do_on (by omega) i1_1 (.inl (by assumption)) | exact R27.do_on (by omega) i1_1 (.inr (by assumption))) : p := h
theorem Tf54_ok_ {p : Prop} (h : p := by first | (have hd := R27.set_done (by omega) i1_1 (by assumption); first | (rw [hd]; done) | exact congrArg List.length hd | exact hd) | (have hd := R27.set_last (by omega) i1_1 (by assumption); first | (rw [hd]; done) | exact congrArg List.length hd | exact hd)) : p := h
set_option maxRecDepth 20000 in
theorem f54_ok (l : List Pair) (lA : Option Addr) (lC : Nat) (x : Pair) (e : Bool) (w : World) (lR : RO [] w lA (l.flatMap Pair.enc)) (q0 : l.length ≤ 1000) : Calls Tryz.prog 54 #[vL lA l.length lC, vG [vS x.key, vS x.record], vB e] w (Gives [] w fun v L => ∃ A : Option Addr, ∃ cc : Nat, v = vL A ((R27.setP l x e).length) cc ∧ L = [Ent.row (.slice A (R27.setP l x e).length cc) 54 2 (R27.setP l x e).length ((R27.setP l x e).flatMap Pair.enc)]) := by
 refine calls_J [] 56 Tryz.func54 rfl Tryz.ntmps54 [(0, _), (1, _), (2, _)] rfl rfl (Give.nil w) ?_
 refine q_ (g_ (o_ (bxG fun b1 => ?_)))
 refine s_ av_ (z_ (n_ (q_ (g_ (o_ (O_buildSlice0 Tryz.underlying42 Ty.sz54 fun b2 => ?_))))))
 refine s_ av_ (z_ (n_ (q_ (g_ (s_ mv_ (s_ av_ (z_ (n_ (q_ (q_ (g_ (s_ av_ (z_ (n_ (k_ ?_)))))))))))))))
 refine J_loop (X := Nat × (List Pair) × (Option Addr) × Nat × Bool) (fun (⟨k, o, oA, oC, d⟩ : Nat × (List Pair) × (Option Addr) × Nat × Bool) => (k ≤ l.length) ∧ ((o, d) = R27.setGo x e (l.take k)) ∧ (o.length ≤ 2 * k)) (fun (⟨k, o, oA, oC, d⟩ : Nat × (List Pair) × (Option Addr) × Nat × Bool) => [(0, vL lA l.length lC), (4, pB b1 0), (6, vL none 0 0), (7, vL oA o.length oC), (8, vB d), (9, vI ((k : Nat) : Int))]) (fun (⟨k, o, oA, oC, d⟩ : Nat × (List Pair) × (Option Addr) × Nat × Bool) => [Ent.blk b1 54 [vS x.key, vS x.record], Ent.row (.slice oA o.length oC) 54 2 o.length (o.flatMap Pair.enc)]) (fun (⟨k, o, oA, oC, d⟩ : Nat × (List Pair) × (Option Addr) × Nat × Bool) => l.length - k) ((0, ([] : List Pair), (some ⟨b2, 0, none⟩), 0, e) : Nat × (List Pair) × (Option Addr) × Nat × Bool) ?_ ⟨rfl, rfl, rfl, rfl, rfl, rfl, trivial⟩ (fun _ h => ((St.torow (cs := []) h 2 0 rfl (by decide)).front 1 _ rfl).keep [true, true] rfl) ?_
 ·try dsimp only
  refine ⟨?_, ?_, ?_⟩
  ·first | rfl | omega | (simp_all; done) | (simp_all; omega)
  ·rfl
  ·exact Nat.le_refl _
 rintro ⟨k, o, oA, oC, d⟩ hI1
 obtain ⟨i1_0, i1_1, i1_2⟩ := hI1
 try dsimp only at i1_0
 try dsimp only at i1_1
 try dsimp only at i1_2
 try dsimp only
 refine q_ (q_ (g_ (s_ mv_ (s_ mv_ (s_ (lnS Tryz.underlying42) (s_ (x_lss_i rfl rfl) (z_ (n_ ?_))))))))
 refine ifd (fun h3w h3 => ?_) (fun h3w h3 => ?_)
 ·refine sk_ (n_ (q_ (k_ (q_ (q_ ?_)))))
  refine drB [] 12 Ty.mixed ?_
  refine jp_ 0 rfl mv_ (jp_ 1 rfl (x_not rfl) (jp_ 2 rfl mv_ ?_))
  refine jb_ 20 (fun h4 => ?_) (fun h4 => ?_)
  ·have h4 : (d) = false := bnot_true h4
   refine jp_ 3 rfl mv_ (jp_ 4 rfl mv_ (jq_ 5 rfl (ixF Pair.enc_len (cells_ro lR) Tryz.underlying42 Ty.sz54) (jp_ 6 rfl (fB0 Ty.fi54_0) (jq_ 7 rfl (ldF0 Pair.enc_len (cells_ro lR) Ty.sc9) (jp_ 8 rfl (fA 0 Ty.fi54_0) (jq_ 9 rfl (ld_ 0 Ty.sc9) (jp_ 10 rfl (x_geq_s rfl rfl) ?_ (hw := ⟨_, rfl, rfl⟩)) (hw := ⟨_, rfl, rfl⟩)) (hw := ⟨_, rfl, rfl⟩)) (hw := ⟨_, rfl, rfl⟩)) (hw := ⟨_, rfl, rfl⟩)) (hw := ⟨_, rfl, rfl⟩)) (hw := ⟨_, rfl, rfl⟩)) (hw := ⟨_, rfl, rfl⟩)
   refine jt_ 11 (vB (!(Op.bytesLess ((l.getD k default).key) x.key))) rfl (fun _ _ => rfl) ?_
   refine JA_done (by kernel_rfl) gm_ ?_
   refine n_ ?_
   refine if_ (fun h5 => ?_) (fun h5 => ?_)
   ·have h5w := h5
    have h5 : (Op.bytesLess ((l.getD k default).key) x.key) = false := bnot_true h5
    refine g_ (s_ mv_ (r_ (ldN 0 [vS x.key, vS x.record] Ty.ag54 Ty.sz54) (o_ (O_buildSlice (cs := [vS x.key, vS x.record]) Tryz.underlying42 Ty.sz54 Ty.ze54 (by decide) (by decide) (by kernel_rfl) fun b6 => ?_))))
    refine o_ (O_append_f 2 Pair.enc 2 o [x] Tryz.underlying42 Ty.sz54 Ty.by54 Ty.ze54 rfl (by decide) rfl rfl rfl rfl Pair.enc_len Pair.enc_one (cells_blk 0 (off := 0) (m := 2) rfl rfl) lt_ lt_ fun A7 c8 => ?_)
    refine s_ av_ (s_ av_ (z_ (xk_ [0, 4, 6, 7, 8, 9] ?_)))
    refine n_ (q_ ?_)
    refine drB [] 8 Ty.mixed ?_
    refine jp_ 0 rfl mv_ (jp_ 1 rfl mv_ (jq_ 2 rfl (ixF Pair.enc_len (cells_ro lR) Tryz.underlying42 Ty.sz54) (jp_ 3 rfl (fB0 Ty.fi54_0) (jq_ 4 rfl (ldF0 Pair.enc_len (cells_ro lR) Ty.sc9) (jp_ 5 rfl (fA 0 Ty.fi54_0) (jq_ 6 rfl (ld_ 1 Ty.sc9) (jp_ 7 rfl (x_neq_s rfl rfl) ?_)))))))
    refine JA_done (by kernel_rfl) gm_ ?_
    refine n_ ?_
    refine ifd (fun h9w h9 => ?_) (fun h9w h9 => ?_)
    ·refine g_ (s_ mv_ (s_ mv_ (s_ mv_ (r_ (ixF Pair.enc_len (cells_ro lR) Tryz.underlying42 Ty.sz54) (r_ (ldFN Pair.enc_len (cells_ro lR) Ty.ag54 Ty.sz54) (o_ (O_buildSlice (cs := [vS ((l.getD k default).key), vS ((l.getD k default).record)]) Tryz.underlying42 Ty.sz54 Ty.ze54 (by decide) (by decide) (by kernel_rfl) fun b10 => ?_)))))))
     refine o_ (O_append_f 3 Pair.enc 2 (o ++ [x]) [(l.getD k default)] Tryz.underlying42 Ty.sz54 Ty.by54 Ty.ze54 rfl (by decide) rfl rfl rfl rfl Pair.enc_len Pair.enc_one (cells_blk 0 (off := 0) (m := 2) rfl rfl) lt_ lt_ fun A11 c12 => ?_)
     refine s_ av_ (z_ (kx_ (n_ (g_ (s_ mv_ (s_ (x_add_n (a := k) (b := 1) rfl rfl (by omega)) (s_ av_ (z_ ?_))))))))
     refine JX_round ((k + 1, (o ++ [x]) ++ [(l.getD k default)], A11, c12, true) : Nat × (List Pair) × (Option Addr) × Nat × Bool) ?_ ?_ ⟨rfl, rfl, rfl, rfl, rfl, rfl, trivial⟩ (fun _ h => h.keep [false, false, true, true] rfl)
     ·try dsimp only
      refine ⟨?_, ?_, ?_⟩
      ·first | rfl | omega | (simp_all; done) | (simp_all; omega)
      ·first
        | exact R27.set_in_in (by omega) i1_1 c27j0_ (by assumption)
        | exact R27.set_in_no (by omega) i1_1 c27j0_ (by assumption)
        | exact R27.set_no_in (by omega) i1_1 c27j0_ (by assumption)
        | exact R27.set_no_no (by omega) i1_1 c27j0_ (by assumption)
      ·(try simp only [List.length_append, List.length_cons, List.length_nil]); omega
     ·try dsimp only
      first | omega | (simp; omega) | (simp_all; omega)
    ·refine sk_ (kx_ (n_ (g_ (s_ mv_ (s_ (x_add_n (a := k) (b := 1) rfl rfl (by omega)) (s_ av_ (z_ ?_)))))))
     refine JX_round ((k + 1, o ++ [x], A7, c8, true) : Nat × (List Pair) × (Option Addr) × Nat × Bool) ?_ ?_ ⟨rfl, rfl, rfl, rfl, rfl, rfl, trivial⟩ (fun _ h => h.keep [false, true, true] rfl)
     ·try dsimp only
      refine ⟨?_, ?_, ?_⟩
      ·first | rfl | omega | (simp_all; done) | (simp_all; omega)
      ·first
        | exact R27.set_in_in (by omega) i1_1 c27j0_ (by assumption)
        | exact R27.set_in_no (by omega) i1_1 c27j0_ (by assumption)
        | exact R27.set_no_in (by omega) i1_1 c27j0_ (by assumption)
        | exact R27.set_no_no (by omega) i1_1 c27j0_ (by assumption)
      ·(try simp only [List.length_append, List.length_cons, List.length_nil]); omega
     ·try dsimp only
      first | omega | (simp; omega) | (simp_all; omega)
   ·have h5w := h5
    have h5 : (Op.bytesLess ((l.getD k default).key) x.key) = true := bnot_false h5
    refine sk_ (n_ (q_ ?_))
    refine drB [] 8 Ty.mixed ?_
    refine jp_ 0 rfl mv_ (jp_ 1 rfl mv_ (jq_ 2 rfl (ixF Pair.enc_len (cells_ro lR) Tryz.underlying42 Ty.sz54) (jp_ 3 rfl (fB0 Ty.fi54_0) (jq_ 4 rfl (ldF0 Pair.enc_len (cells_ro lR) Ty.sc9) (jp_ 5 rfl (fA 0 Ty.fi54_0) (jq_ 6 rfl (ld_ 0 Ty.sc9) (jp_ 7 rfl (x_neq_s rfl rfl) ?_)))))))
    refine JA_done (by kernel_rfl) gm_ ?_
    refine n_ ?_
    refine ifd (fun h13w h13 => ?_) (fun h13w h13 => ?_)
    ·refine g_ (s_ mv_ (s_ mv_ (s_ mv_ (r_ (ixF Pair.enc_len (cells_ro lR) Tryz.underlying42 Ty.sz54) (r_ (ldFN Pair.enc_len (cells_ro lR) Ty.ag54 Ty.sz54) (o_ (O_buildSlice (cs := [vS ((l.getD k default).key), vS ((l.getD k default).record)]) Tryz.underlying42 Ty.sz54 Ty.ze54 (by decide) (by decide) (by kernel_rfl) fun b14 => ?_)))))))
     refine o_ (O_append_f 2 Pair.enc 2 o [(l.getD k default)] Tryz.underlying42 Ty.sz54 Ty.by54 Ty.ze54 rfl (by decide) rfl rfl rfl rfl Pair.enc_len Pair.enc_one (cells_blk 0 (off := 0) (m := 2) rfl rfl) lt_ lt_ fun A15 c16 => ?_)
     refine s_ av_ (z_ (kx_ (n_ (g_ (s_ mv_ (s_ (x_add_n (a := k) (b := 1) rfl rfl (by omega)) (s_ av_ (z_ ?_))))))))
     refine JX_round ((k + 1, o ++ [(l.getD k default)], A15, c16, d) : Nat × (List Pair) × (Option Addr) × Nat × Bool) ?_ ?_ ⟨rfl, rfl, rfl, rfl, rfl, rfl, trivial⟩ (fun _ h => h.keep [false, true, true] rfl)
     ·try dsimp only
      refine ⟨?_, ?_, ?_⟩
      ·first | rfl | omega | (simp_all; done) | (simp_all; omega)
      ·first
        | exact R27.set_in_in (by omega) i1_1 c27j0_ (by assumption)
        | exact R27.set_in_no (by omega) i1_1 c27j0_ (by assumption)
        | exact R27.set_no_in (by omega) i1_1 c27j0_ (by assumption)
        | exact R27.set_no_no (by omega) i1_1 c27j0_ (by assumption)
      ·(try simp only [List.length_append, List.length_cons, List.length_nil]); omega
     ·try dsimp only
      first | omega | (simp; omega) | (simp_all; omega)
    ·refine sk_ (kx_ (n_ (g_ (s_ mv_ (s_ (x_add_n (a := k) (b := 1) rfl rfl (by omega)) (s_ av_ (z_ ?_)))))))
     refine JX_round ((k + 1, o, oA, oC, d) : Nat × (List Pair) × (Option Addr) × Nat × Bool) ?_ ?_ ⟨rfl, rfl, rfl, rfl, rfl, rfl, trivial⟩ (fun _ h => h)
     ·try dsimp only
      refine ⟨?_, ?_, ?_⟩
      ·first | rfl | omega | (simp_all; done) | (simp_all; omega)
      ·first
        | exact R27.set_in_in (by omega) i1_1 c27j0_ (by assumption)
        | exact R27.set_in_no (by omega) i1_1 c27j0_ (by assumption)
        | exact R27.set_no_in (by omega) i1_1 c27j0_ (by assumption)
        | exact R27.set_no_no (by omega) i1_1 c27j0_ (by assumption)
      ·(try simp only [List.length_append, List.length_cons, List.length_nil]); omega
     ·try dsimp only
      first | omega | (simp; omega) | (simp_all; omega)
  ·have h4 : (d) = true := bnot_false h4
   refine js2_ 3 rfl (js2_ 4 rfl (js2_ 5 rfl (js2_ 6 rfl (js2_ 7 rfl (js2_ 8 rfl (js2_ 9 rfl (js2_ 10 rfl ?_)))))))
   refine jt_ 11 (vB false) rfl (fun _ _ => rfl) ?_
   refine JA_done (by kernel_rfl) gm_ ?_
   refine n_ (iff_ (sk_ (n_ (q_ ?_))))
   refine drB [] 8 Ty.mixed ?_
   refine jp_ 0 rfl mv_ (jp_ 1 rfl mv_ (jq_ 2 rfl (ixF Pair.enc_len (cells_ro lR) Tryz.underlying42 Ty.sz54) (jp_ 3 rfl (fB0 Ty.fi54_0) (jq_ 4 rfl (ldF0 Pair.enc_len (cells_ro lR) Ty.sc9) (jp_ 5 rfl (fA 0 Ty.fi54_0) (jq_ 6 rfl (ld_ 0 Ty.sc9) (jp_ 7 rfl (x_neq_s rfl rfl) ?_)))))))
   refine JA_done (by kernel_rfl) gm_ ?_
   refine n_ ?_
   refine ifd (fun h17w h17 => ?_) (fun h17w h17 => ?_)
   ·refine g_ (s_ mv_ (s_ mv_ (s_ mv_ (r_ (ixF Pair.enc_len (cells_ro lR) Tryz.underlying42 Ty.sz54) (r_ (ldFN Pair.enc_len (cells_ro lR) Ty.ag54 Ty.sz54) (o_ (O_buildSlice (cs := [vS ((l.getD k default).key), vS ((l.getD k default).record)]) Tryz.underlying42 Ty.sz54 Ty.ze54 (by decide) (by decide) (by kernel_rfl) fun b18 => ?_)))))))
    refine o_ (O_append_f 2 Pair.enc 2 o [(l.getD k default)] Tryz.underlying42 Ty.sz54 Ty.by54 Ty.ze54 rfl (by decide) rfl rfl rfl rfl Pair.enc_len Pair.enc_one (cells_blk 0 (off := 0) (m := 2) rfl rfl) lt_ lt_ fun A19 c20 => ?_)
    refine s_ av_ (z_ (kx_ (n_ (g_ (s_ mv_ (s_ (x_add_n (a := k) (b := 1) rfl rfl (by omega)) (s_ av_ (z_ ?_))))))))
    refine JX_round ((k + 1, o ++ [(l.getD k default)], A19, c20, d) : Nat × (List Pair) × (Option Addr) × Nat × Bool) ?_ ?_ ⟨rfl, rfl, rfl, rfl, rfl, rfl, trivial⟩ (fun _ h => h.keep [false, true, true] rfl)
    ·try dsimp only
     refine ⟨?_, ?_, ?_⟩
     ·first | rfl | omega | (simp_all; done) | (simp_all; omega)
     ·first
       | exact R27.set_in_in (by omega) i1_1 c27j0_ (by assumption)
       | exact R27.set_in_no (by omega) i1_1 c27j0_ (by assumption)
       | exact R27.set_no_in (by omega) i1_1 c27j0_ (by assumption)
       | exact R27.set_no_no (by omega) i1_1 c27j0_ (by assumption)
     ·(try simp only [List.length_append, List.length_cons, List.length_nil]); omega
    ·try dsimp only
     first | omega | (simp; omega) | (simp_all; omega)
   ·refine sk_ (kx_ (n_ (g_ (s_ mv_ (s_ (x_add_n (a := k) (b := 1) rfl rfl (by omega)) (s_ av_ (z_ ?_)))))))
    refine JX_round ((k + 1, o, oA, oC, d) : Nat × (List Pair) × (Option Addr) × Nat × Bool) ?_ ?_ ⟨rfl, rfl, rfl, rfl, rfl, rfl, trivial⟩ (fun _ h => h)
    ·try dsimp only
     refine ⟨?_, ?_, ?_⟩
     ·first | rfl | omega | (simp_all; done) | (simp_all; omega)
     ·first
       | exact R27.set_in_in (by omega) i1_1 c27j0_ (by assumption)
       | exact R27.set_in_no (by omega) i1_1 c27j0_ (by assumption)
       | exact R27.set_no_in (by omega) i1_1 c27j0_ (by assumption)
       | exact R27.set_no_no (by omega) i1_1 c27j0_ (by assumption)
     ·(try simp only [List.length_append, List.length_cons, List.length_nil]); omega
    ·try dsimp only
     first | omega | (simp; omega) | (simp_all; omega)
 ·refine J_exit (ne_ (re_ (kh_ (n_ (q_ ?_)))))
  refine q_ (g_ (s_ mv_ (s_ (x_not rfl) (z_ (n_ ?_)))))
  refine if_ (fun h21 => ?_) (fun h21 => ?_)
  ·have h21w := h21
   have h21 : (d) = false := bnot_true h21
   refine g_ (s_ mv_ (r_ (ldN 0 [vS x.key, vS x.record] Ty.ag54 Ty.sz54) (o_ (O_buildSlice (cs := [vS x.key, vS x.record]) Tryz.underlying42 Ty.sz54 Ty.ze54 (by decide) (by decide) (by kernel_rfl) fun b22 => ?_))))
   refine o_ (O_append_f 2 Pair.enc 2 o [x] Tryz.underlying42 Ty.sz54 Ty.by54 Ty.ze54 rfl (by decide) rfl rfl rfl rfl Pair.enc_len Pair.enc_one (cells_blk 0 (off := 0) (m := 2) rfl rfl) lt_ lt_ fun A23 c24 => ?_)
   refine s_ av_ (z_ (n_ (q_ (g_ (s_ mv_ (s_ av_ (z_ (n_ (rt_ ?_)))))))))
   refine JX_rets [_] _ Tryz.results54 (fun w h => ⟨rfl, trivial⟩) rfl _ (fun _ h => h.keep [false, false, true] rfl) ⟨A23, c24, ?_, ?_⟩
   ·have e_x0 : ((o ++ [x]).length : Nat) = ((R27.setP l x e).length) := Tf54_ok_
    exact congrArg (fun (x0 : Nat) => vL A23 x0 c24) e_x0
   ·have e_y0 : (o ++ [x] : List Pair) = (R27.setP l x e) := by
     exact Tf54_ok_
    have e_all := (congrArg (fun (y0 : List Pair) => [Ent.row (.slice A23 y0.length c24) 54 2 y0.length (y0.flatMap Pair.enc)]) e_y0)
    exact e_all
  ·have h21w := h21
   have h21 : (d) = true := bnot_false h21
   refine sk_ (n_ (q_ (g_ (s_ mv_ (s_ av_ (z_ (n_ (rt_ ?_))))))))
   refine JX_rets [_] _ Tryz.results54 (fun w h => ⟨rfl, trivial⟩) rfl _ (fun _ h => h.keep [false, true] rfl) ⟨oA, oC, ?_, ?_⟩
   ·have e_x0 : (o.length : Nat) = ((R27.setP l x e).length) := Tf54_ok_
    exact congrArg (fun (x0 : Nat) => vL oA x0 oC) e_x0
   ·have e_y0 : (o : List Pair) = (R27.setP l x e) := by
     exact Tf54_ok_
    have e_all := (congrArg (fun (y0 : List Pair) => [Ent.row (.slice oA y0.length oC) 54 2 y0.length (y0.flatMap Pair.enc)]) e_y0)
    exact e_all
theorem Tf31_ok_ {p : Prop} (h : p := by first | (have hd := R27.chg0 (l := l) (key := key) (by assumption : c.Kind = 0); first | exact hd.elim | exact congrArg List.length hd | exact hd | (rw [hd]; done)) | (have hd := R27.chg1 (l := l) (key := key) (by assumption : c.Kind = 1); first | exact hd.elim | exact congrArg List.length hd | exact hd | (rw [hd]; done)) | (have hd := R27.chg2 (l := l) (key := key) (by assumption : c.Kind = 2); first | exact hd.elim | exact congrArg List.length hd | exact hd | (rw [hd]; done)) | (have hd := R27.chg3 (l := l) (key := key) (by assumption : c.Kind = 3); first | exact hd.elim | exact congrArg List.length hd | exact hd | (rw [hd]; done))) : p := h
set_option maxRecDepth 20000 in
theorem f31_ok (l : List Pair) (lA : Option Addr) (lC : Nat) (c : Change) (key : Bytes) (w : World) (lR : RO [] w lA (l.flatMap Pair.enc)) (q0 : l.length ≤ 1000) (q1 : 0 ≤ c.Kind ∧ c.Kind ≤ 3) : Calls Tryz.prog 31 #[vL lA l.length lC, vG (Change.enc c), vS key] w (Gives [] w fun v L => ∃ A : Option Addr, ∃ cc : Nat, v = vL A ((R27.chg l c key).length) cc ∧ L = [Ent.row (.slice A (R27.chg l c key).length cc) 54 2 (R27.chg l c key).length ((R27.chg l c key).flatMap Pair.enc)]) := by
 refine calls_J [] 36 Tryz.func31 rfl Tryz.ntmps31 [(0, _), (1, _), (2, _)] rfl rfl (Give.nil w) ?_
 refine q_ (g_ (o_ (bxG fun b1 => ?_)))
 refine s_ av_ (z_ (n_ (q_ (q_ (g_ (s_ (fA 0 Ty.fi27_0) (r_ (ld_ 0 Ty.sc3) (z_ (n_ (k_ (q_ (g_ (s_ (x_eql_i rfl rfl) (s_ av_ (z_ (n_ ?_))))))))))))))))
 refine ifd (fun h2w h2 => ?_) (fun h2w h2 => ?_)
 ·refine q_ (g_ (s_ mv_ (s_ (fA 2 Ty.fi27_2) (r_ (ld_ 0 Ty.sc9) (s_ (fA 3 Ty.fi27_3) (r_ (ld_ 0 Ty.sc9) (js_ (vG [vS c.Key, vS c.Record]) (x_build (by kernel_rfl)) ?_)))))))
  refine c1 (cl_ Ty.ca54) (fun w hS => f54_ok l lA lC (Pair.mk c.Key c.Record) _ w (rno lR hS) hy_) ?_
  rintro _ _ ⟨A3, cc4, rfl, rfl⟩
  refine s_ av_ (z_ (n_ (rt_ (kq_ (nr_ ?_)))))
  refine JX_rets [_] _ Tryz.results31 (fun w h => ⟨rfl, trivial⟩) rfl _ (fun _ h => h.keep [true, false] rfl) ⟨A3, cc4, ?_, ?_⟩
  ·have e_x0 : ((R27.setP l (Pair.mk c.Key c.Record) false).length : Nat) = ((R27.chg l c key).length) := Tf31_ok_
   exact congrArg (fun (x0 : Nat) => vL A3 x0 cc4) e_x0
  ·have e_y0 : ((R27.setP l (Pair.mk c.Key c.Record) false) : List Pair) = (R27.chg l c key) := by
    exact Tf31_ok_
   have e_all := (congrArg (fun (y0 : List Pair) => [Ent.row (.slice A3 y0.length cc4) 54 2 y0.length (y0.flatMap Pair.enc)]) e_y0)
   exact e_all
 ·refine q_ (g_ (s_ (x_eql_i rfl rfl) (s_ av_ (z_ (n_ ?_)))))
  refine ifd (fun h5w h5 => ?_) (fun h5w h5 => ?_)
  ·refine q_ (g_ (s_ mv_ (s_ (fA 2 Ty.fi27_2) (r_ (ld_ 0 Ty.sc9) (js_ (vG [vS c.Key, vS []]) (x_build (by kernel_rfl)) ?_)))))
   refine c1 (cl_ Ty.ca54) (fun w hS => f54_ok l lA lC (Pair.mk c.Key []) true w (rno lR hS) hy_) ?_
   rintro _ _ ⟨A6, cc7, rfl, rfl⟩
   refine s_ av_ (z_ (n_ (rt_ (kq_ (nr_ ?_)))))
   refine JX_rets [_] _ Tryz.results31 (fun w h => ⟨rfl, trivial⟩) rfl _ (fun _ h => h.keep [true, false] rfl) ⟨A6, cc7, ?_, ?_⟩
   ·have e_x0 : ((R27.setP l (Pair.mk c.Key []) true).length : Nat) = ((R27.chg l c key).length) := Tf31_ok_
    exact congrArg (fun (x0 : Nat) => vL A6 x0 cc7) e_x0
   ·have e_y0 : ((R27.setP l (Pair.mk c.Key []) true) : List Pair) = (R27.chg l c key) := by
     exact Tf31_ok_
    have e_all := (congrArg (fun (y0 : List Pair) => [Ent.row (.slice A6 y0.length cc7) 54 2 y0.length (y0.flatMap Pair.enc)]) e_y0)
    exact e_all
  ·refine q_ (g_ (s_ (x_eql_i rfl rfl) (s_ av_ (z_ (n_ ?_)))))
   refine ifd (fun h8w h8 => ?_) (fun h8w h8 => ?_)
   ·refine q_ (g_ (s_ mv_ (s_ mv_ (s_ (fA 3 Ty.fi27_3) (r_ (ld_ 0 Ty.sc9) (js_ (vG [vS key, vS c.Record]) (x_build (by kernel_rfl)) ?_))))))
    refine c1 (cl_ Ty.ca54) (fun w hS => f54_ok l lA lC (Pair.mk key c.Record) _ w (rno lR hS) hy_) ?_
    rintro _ _ ⟨A9, cc10, rfl, rfl⟩
    refine s_ av_ (z_ (n_ (rt_ (kq_ (nr_ ?_)))))
    refine JX_rets [_] _ Tryz.results31 (fun w h => ⟨rfl, trivial⟩) rfl _ (fun _ h => h.keep [true, false] rfl) ⟨A9, cc10, ?_, ?_⟩
    ·have e_x0 : ((R27.setP l (Pair.mk key c.Record) false).length : Nat) = ((R27.chg l c key).length) := Tf31_ok_
     exact congrArg (fun (x0 : Nat) => vL A9 x0 cc10) e_x0
    ·have e_y0 : ((R27.setP l (Pair.mk key c.Record) false) : List Pair) = (R27.chg l c key) := by
      exact Tf31_ok_
     have e_all := (congrArg (fun (y0 : List Pair) => [Ent.row (.slice A9 y0.length cc10) 54 2 y0.length (y0.flatMap Pair.enc)]) e_y0)
     exact e_all
   ·refine q_ (g_ (s_ (x_eql_i rfl rfl) (s_ av_ (z_ (n_ ?_)))))
    refine ifd (fun h11w h11 => ?_) (fun h11w h11 => ?_)
    ·refine q_ (g_ (s_ av_ (z_ (n_ (rt_ (kq_ (nr_ ?_)))))))
     refine JX_rets [_] _ Tryz.results31 (fun w h => ⟨rfl, trivial⟩) rfl [Ent.row (.slice none ([] : List Pair).length 0) 54 2 ([] : List Pair).length (([] : List Pair).flatMap Pair.enc)] (fun _ h => (h.nilrow 54 2).keep [true, false] rfl) ⟨none, 0, ?_, ?_⟩
     ·have e_x0 : (0 : Nat) = ((R27.chg l c key).length) := Tf31_ok_
      exact congrArg (fun (x0 : Nat) => vL none x0 0) e_x0
     ·have e_y0 : (([] : List Pair) : List Pair) = (R27.chg l c key) := by
       exact Tf31_ok_
      have e_all := (congrArg (fun (y0 : List Pair) => [Ent.row (.slice none y0.length 0) 54 2 y0.length (y0.flatMap Pair.enc)]) e_y0)
      exact e_all
    ·refine sk_ (kx_ (n_ (q_ (g_ (s_ mv_ (s_ av_ (z_ (n_ (rt_ ?_)))))))))
     exact False.elim (by omega)
set_option maxRecDepth 20000 in
theorem f9_ok (ds : List Data) (dsA : Option Addr) (dsC : Nat) (c : Change) (key : Bytes) (w : World) (dsR : RO [] w dsA (ds.flatMap Data.enc)) (dsN : ∀ i : Nat, RO [] w (ds.getD i default).PairsA (((ds.getD i default).Pairs).flatMap Pair.enc)) (q0 : ds.length ≤ 1000) (q1 : ∀ i, (ds.getD i default).Pairs.length ≤ 1000) (q2 : 0 ≤ c.Kind ∧ c.Kind ≤ 3) : Calls Tryz.prog 9 #[vG [vL dsA ds.length dsC, Value.pointer none], vG (Change.enc c), vS key] w (Gives [] w fun v L => ∃ A : Option Addr, ∃ cc : Nat, ∃ A2 : Option Addr, ∃ c2 : Nat, v = vG [vL A ((R27.doD ds c key A2 c2).length) cc, Value.pointer none] ∧ L = [Ent.row (.slice A (R27.doD ds c key A2 c2).length cc) 56 2 (R27.doD ds c key A2 c2).length ((R27.doD ds c key A2 c2).flatMap Data.enc), Ent.row (.slice A2 (R27.chg (R27.ofP ds c.Id) c key).length c2) 54 2 (R27.chg (R27.ofP ds c.Id) c key).length ((R27.chg (R27.ofP ds c.Id) c key).flatMap Pair.enc)]) := by
 refine calls_J [] 57 Tryz.func9 rfl Tryz.ntmps9 [(0, _), (1, _), (2, _)] rfl rfl (Give.nil w) ?_
 refine q_ (g_ (o_ (bxG fun b1 => ?_)))
 refine o_ (bxG fun b2 => ?_)
 refine o_ (al_ Ty.ze33 fun b3 => ?_)
 refine z_ (n_ (q_ (g_ (o_ (O_buildSlice0 Tryz.underlying30 Ty.sz56 fun b4 => ?_)))))
 refine s_ av_ (z_ (n_ (q_ (g_ (s_ av_ (z_ (n_ (q_ (q_ (g_ (s_ av_ (z_ (n_ (k_ ?_))))))))))))))
 refine J_loop (X := Nat × (List Data) × (Option Addr) × Nat × Bool × (List Pair) × (Option Addr) × Nat) (fun (⟨k, out, outA, outC, found, ps, psA, psC⟩ : Nat × (List Data) × (Option Addr) × Nat × Bool × (List Pair) × (Option Addr) × Nat) => (k ≤ ds.length) ∧ (R27.DoAt ds c key k out found ps psA psC) ∧ (out.length ≤ k)) (fun (⟨k, out, outA, outC, found, ps, psA, psC⟩ : Nat × (List Data) × (Option Addr) × Nat × Bool × (List Pair) × (Option Addr) × Nat) => [(2, vS key), (3, pB b1 0), (4, pB b2 0), (6, pB b3 0), (7, vL outA out.length outC), (8, vB found), (9, vI ((k : Nat) : Int))]) (fun (⟨k, out, outA, outC, found, ps, psA, psC⟩ : Nat × (List Data) × (Option Addr) × Nat × Bool × (List Pair) × (Option Addr) × Nat) => [Ent.blk b3 33 [vL none 0 0, Value.pointer none], Ent.blk b2 27 (Change.enc c), Ent.blk b1 33 [vL dsA ds.length dsC, Value.pointer none], Ent.row (.slice outA out.length outC) 56 2 out.length (out.flatMap Data.enc), Ent.row (.slice psA ps.length psC) 54 2 ps.length (ps.flatMap Pair.enc)]) (fun (⟨k, out, outA, outC, found, ps, psA, psC⟩ : Nat × (List Data) × (Option Addr) × Nat × Bool × (List Pair) × (Option Addr) × Nat) => ds.length - k) ((0, [], (some ⟨b4, 0, none⟩), 0, false, ([] : List Pair), none, 0) : Nat × (List Data) × (Option Addr) × Nat × Bool × (List Pair) × (Option Addr) × Nat) ?_ ⟨rfl, rfl, rfl, rfl, rfl, rfl, rfl, trivial⟩ (fun _ h => ((((St.torow (cs := []) ((h.nilrow 54 2).front 1 _ rfl) 2 0 rfl (by decide)).front 4 _ rfl).front 4 _ rfl).front 4 _ rfl).keep [true, true, true, true, true] rfl) ?_
 ·try dsimp only
  refine ⟨?_, ?_, ?_⟩
  ·first | rfl | omega | (simp_all; done) | (simp_all; omega)
  ·exact R27.do_start
  ·exact Nat.le_refl _
 rintro ⟨k, out, outA, outC, found, ps, psA, psC⟩ hI1
 obtain ⟨i1_0, i1_1, i1_2⟩ := hI1
 try dsimp only at i1_0
 try dsimp only at i1_1
 try dsimp only at i1_2
 have hqk := q1 k
 try dsimp only
 refine q_ (q_ (g_ (s_ mv_ (s_ (fA 0 Ty.fi33_0) (r_ (ld_ 2 Ty.sc30) (s_ (lnS Tryz.underlying30) (s_ (x_lss_i rfl rfl) (z_ (n_ ?_)))))))))
 refine ifd (fun h5w h5 => ?_) (fun h5w h5 => ?_)
 ·refine sk_ (n_ (q_ (k_ (q_ (g_ (s_ (fA 0 Ty.fi33_0) (r_ (ld_ 2 Ty.sc30) (s_ mv_ (r_ (ixF Data.enc_len (cells_ro dsR) Tryz.underlying30 Ty.sz56) (r_ (ldFN Data.enc_len (cells_ro dsR) Ty.ag56 Ty.sz56) (o_ (al_ Ty.ze56 fun b6 => ?_))))))))))))
  refine o_ (stG 0 Ty.sz56 ?_)
  refine z_ (n_ (q_ (q_ (g_ (s_ (fA 0 Ty.fi56_0) (r_ (ld_ 0 Ty.sc3) (s_ (fA 1 Ty.fi27_1) (r_ (ld_ 2 Ty.sc3) (s_ (x_eql_i rfl rfl) (s_ mv_ ?_))))))))))
  refine and_ 2 (!found) (fun g7 => ?_) ?_
  ·have g7r := g7
   have g7r := of_decide_eq_true g7r
   refine sg_ g7 mv_ (sg_ g7 (x_not rfl) ?_)
   exact cr_
  refine z_ (xk_ [2, 3, 4, 6, 7, 8, 9, 10, 32] ?_)
  refine n_ ?_
  refine if_ (fun h8 => ?_) (fun h8 => ?_)
  ·have h8w := h8
   have ⟨h8, h9⟩ := band_true h8
   have h8 := of_decide_eq_true h8
   have h9 : (found) = false := bnot_true h9
   refine q_ (g_ (s_ av_ (z_ (n_ (g_ (s_ (fA 1 Ty.fi56_1) (r_ (ld_ 0 Ty.sc42) (r_ (ldN 2 (Change.enc c) Ty.ag27 Ty.sz27) (s_ mv_ ?_)))))))))
   refine c1 (cl_ Ty.ca31) (fun w hS => f31_ok _ _ _ c key w (rno (dsN k) hS) hy_ hy_) ?_
   rintro _ _ ⟨A10, cc11, rfl, rfl⟩
   have ha12 := R27.chg_len ((ds.getD k default).Pairs) c key
   refine s_ (fA 1 Ty.fi56_1) (o_ (st1 1 Ty.sz42 ?_))
   refine z_ (n_ (g_ (s_ mv_ (r_ (ldN 1 [vI ((ds.getD k default).Id), vL A10 ((R27.chg ((ds.getD k default).Pairs) c key).length) cc11] Ty.ag56 Ty.sz56) (o_ (O_buildSlice (cs := [vI ((ds.getD k default).Id), vL A10 ((R27.chg ((ds.getD k default).Pairs) c key).length) cc11]) Tryz.underlying30 Ty.sz56 Ty.ze56 (by decide) (by decide) (by kernel_rfl) fun b13 => ?_))))))
   refine o_ (O_append_f 6 Data.enc 2 out [(Data.mk ((ds.getD k default).Id) (R27.chg ((ds.getD k default).Pairs) c key) A10 cc11)] Tryz.underlying30 Ty.sz56 Ty.by56 Ty.ze56 rfl (by decide) rfl rfl rfl rfl Data.enc_len Data.enc_one (cells_blk 0 (off := 0) (m := 2) rfl rfl) lt_ lt_ fun A14 c15 => ?_)
   refine s_ av_ (z_ (kx_ (n_ (g_ (s_ mv_ (s_ (x_add_n (a := k) (b := 1) rfl rfl (by omega)) (s_ av_ (z_ ?_))))))))
   refine JX_round ((k + 1, out ++ [(Data.mk ((ds.getD k default).Id) (R27.chg ((ds.getD k default).Pairs) c key) A10 cc11)], A14, c15, true, (R27.chg ((ds.getD k default).Pairs) c key), A10, cc11) : Nat × (List Data) × (Option Addr) × Nat × Bool × (List Pair) × (Option Addr) × Nat) ?_ ?_ ⟨rfl, rfl, rfl, rfl, rfl, rfl, rfl, trivial⟩ (fun _ h => (((((h.front 1 _ rfl).front 6 _ rfl).front 6 _ rfl).front 6 _ rfl).front 6 _ rfl).keep [true, true, true, true, true, false, false, false] rfl)
   ·try dsimp only
    refine ⟨?_, ?_, ?_⟩
    ·first | rfl | omega | (simp_all; done) | (simp_all; omega)
    ·exact c27j2_
    ·(try simp only [List.length_append, List.length_cons, List.length_nil]); omega
   ·try dsimp only
    first | omega | (simp; omega) | (simp_all; omega)
  ·have h8w := h8
   simp only [Bool.and_eq_true, Bool.or_eq_true, Bool.and_eq_false_iff, Bool.or_eq_false_iff, Bool.not_eq_true', Bool.not_eq_false', decide_eq_true_eq, decide_eq_false_iff_not] at h8
   refine sk_ (n_ (g_ (s_ mv_ (r_ (ldN 0 [vI ((ds.getD k default).Id), vL ((ds.getD k default).PairsA) ((ds.getD k default).Pairs.length) ((ds.getD k default).PairsC)] Ty.ag56 Ty.sz56) (o_ (O_buildSlice (cs := [vI ((ds.getD k default).Id), vL ((ds.getD k default).PairsA) ((ds.getD k default).Pairs.length) ((ds.getD k default).PairsC)]) Tryz.underlying30 Ty.sz56 Ty.ze56 (by decide) (by decide) (by kernel_rfl) fun b16 => ?_))))))
   refine o_ (O_append_f 5 Data.enc 2 out [(Data.mk ((ds.getD k default).Id) ((ds.getD k default).Pairs) ((ds.getD k default).PairsA) ((ds.getD k default).PairsC))] Tryz.underlying30 Ty.sz56 Ty.by56 Ty.ze56 rfl (by decide) rfl rfl rfl rfl Data.enc_len Data.enc_one (cells_blk 0 (off := 0) (m := 2) rfl rfl) lt_ lt_ fun A17 c18 => ?_)
   refine s_ av_ (z_ (kx_ (n_ (g_ (s_ mv_ (s_ (x_add_n (a := k) (b := 1) rfl rfl (by omega)) (s_ av_ (z_ ?_))))))))
   refine JX_round ((k + 1, out ++ [(Data.mk ((ds.getD k default).Id) ((ds.getD k default).Pairs) ((ds.getD k default).PairsA) ((ds.getD k default).PairsC))], A17, c18, found, ps, psA, psC) : Nat × (List Data) × (Option Addr) × Nat × Bool × (List Pair) × (Option Addr) × Nat) ?_ ?_ ⟨rfl, rfl, rfl, rfl, rfl, rfl, rfl, trivial⟩ (fun _ h => h.keep [false, false, true, true, true, true, true] rfl)
   ·try dsimp only
    refine ⟨?_, ?_, ?_⟩
    ·first | rfl | omega | (simp_all; done) | (simp_all; omega)
    ·exact c27j2_
    ·(try simp only [List.length_append, List.length_cons, List.length_nil]); omega
   ·try dsimp only
    first | omega | (simp; omega) | (simp_all; omega)
 ·refine J_exit (ne_ (re_ (kh_ (n_ (q_ ?_)))))
  refine q_ (g_ (s_ mv_ (s_ (x_not rfl) (z_ (n_ ?_)))))
  refine if_ (fun h19 => ?_) (fun h19 => ?_)
  ·have h19w := h19
   have h19 : (found) = false := bnot_true h19
   refine drU [Ent.blk b3 33 [vL none 0 0, Value.pointer none], Ent.blk b2 27 (Change.enc c), Ent.blk b1 33 [vL dsA ds.length dsC, Value.pointer none], Ent.row (.slice psA ps.length psC) 54 2 ps.length (ps.flatMap Pair.enc)] [8] 10 Ty.mixed ?_
   refine jp_ 0 rfl mv_ (jp_ 1 rfl (fA 1 Ty.fi27_1) (jq_ 2 rfl (ld_ 1 Ty.sc3) (jq_ 3 rfl (ldN 1 (Change.enc c) Ty.ag27 Ty.sz27) (jp_ 4 rfl mv_ (j1_ 5 ?_ (fun _ h => ⟨h.keep [true, true, true, false, true] rfl, fun _ => h⟩))))))
   refine jc1_ rfl (cl_ Ty.ca31) (fun w hS => f31_ok [] none 0 c key w RO.nil hy_ hy_) ?_
   rintro _ _ ⟨A20, cc21, rfl, rfl⟩
   have ha22 := R27.chg_len [] c key
   try simp only [List.length_cons, List.length_nil, Nat.zero_add, Nat.reduceAdd, Nat.reduceMul] at ha22
   refine jt_ 6 (vG [vI c.Id, vL A20 ((R27.chg [] c key).length) cc21]) rfl (fun _ _ => x_build (by kernel_rfl)) ?_
   refine j1_ 7 (jio_ rfl (O_buildSlice (cs := [vI c.Id, vL A20 ((R27.chg [] c key).length) cc21]) Tryz.underlying30 Ty.sz56 Ty.ze56 (by decide) (by decide) (by kernel_rfl) fun b24 => ?_)) (fun _ h => ⟨h.keep [false, true, true, true, false, true] rfl, fun _ => h.keep [false, true, true, true, true, true] rfl⟩)
   refine j1_ 8 (jio_ rfl (O_append_f 5 Data.enc 2 out [(Data.mk c.Id (R27.chg [] c key) A20 cc21)] Tryz.underlying30 Ty.sz56 Ty.by56 Ty.ze56 rfl (by decide) rfl rfl rfl rfl Data.enc_len Data.enc_one (cells_blk 0 (off := 0) (m := 2) rfl rfl) lt_ lt_ fun A27 c28 => ?_)) (fun _ h => ⟨h.keep [false, false, true, true, true, false, true] rfl, fun _ => h.keep [false, false, true, true, true, true, true] rfl⟩)
   refine jp_ 9 rfl av_ ?_
   refine JA_done (by kernel_rfl) (gl_ rfl (fun _ h => h.keep [false, false, true, true, true, false, true] rfl)) ?_
   refine n_ (q_ (g_ (s_ mv_ (s_ (fA 0 Ty.fi33_0) (o_ (st1 4 Ty.sz30 ?_))))))
   refine z_ (xk_ [3, 6] ?_)
   refine n_ (q_ (g_ (r_ (ldN 4 [vL A27 ((out ++ [(Data.mk c.Id (R27.chg [] c key) A20 cc21)]).length) c28, Value.pointer none] Ty.ag33 Ty.sz33) (o_ (stG 2 Ty.sz33 ?_)))))
   refine z_ (n_ (rt_ ?_))
   first
    | have hd := R27.do_old (by omega) i1_1 (by assumption)
    | have hd := And.intro (R27.do_new (A := A20) (C := cc21) (by omega) i1_1 (by assumption)) (R27.do_newP (by omega) i1_1 (by assumption))
   refine JX_rets [_] _ Tryz.results9 (fun w h => ⟨⟨_, rfl, load_blkN 2 [vL A27 ((out ++ [(Data.mk c.Id (R27.chg [] c key) A20 cc21)]).length) c28, Value.pointer none] h rfl Ty.ag33 Ty.sz33 rfl⟩, trivial⟩) rfl [Ent.row (.slice A27 (out ++ [(Data.mk c.Id (R27.chg [] c key) A20 cc21)]).length c28) 56 2 (out ++ [(Data.mk c.Id (R27.chg [] c key) A20 cc21)]).length ((out ++ [(Data.mk c.Id (R27.chg [] c key) A20 cc21)]).flatMap Data.enc), Ent.row (.slice A20 (R27.chg [] c key).length cc21) 54 2 (R27.chg [] c key).length ((R27.chg [] c key).flatMap Pair.enc)] (fun _ h => ((h.front 1 _ rfl).front 5 _ rfl).keep [true, true, false, false, false, false, false] rfl) ⟨A27, c28, A20, cc21, ?_, ?_⟩
   ·have e_x0 : ((out ++ [(Data.mk c.Id (R27.chg [] c key) A20 cc21)]).length : Nat) = ((R27.doD ds c key A20 cc21).length) := by first | exact congrArg List.length hd.1 | exact hd.1 | exact hd.2
    exact congrArg (fun (x0 : Nat) => vG [vL A27 x0 c28, Value.pointer none]) e_x0
   ·have e_y0 : (out ++ [(Data.mk c.Id (R27.chg [] c key) A20 cc21)] : List Data) = (R27.doD ds c key A20 cc21) := by
     exact c27j1_
    have e_y1 : ((R27.chg [] c key) : List Pair) = (R27.chg (R27.ofP ds c.Id) c key) := by
     exact c27j1_
    have e_all := (congr (congrArg (fun (y0 : List Data) (y1 : List Pair) => [Ent.row (.slice A27 y0.length c28) 56 2 y0.length (y0.flatMap Data.enc), Ent.row (.slice A20 y1.length cc21) 54 2 y1.length (y1.flatMap Pair.enc)]) e_y0) e_y1)
    exact e_all
  ·have h19w := h19
   have h19 : (found) = true := bnot_false h19
   refine sk_ (n_ (q_ (g_ (s_ mv_ (s_ (fA 0 Ty.fi33_0) (o_ (st1 2 Ty.sz30 ?_)))))))
   refine z_ (n_ (q_ (g_ (r_ (ldN 2 [vL outA out.length outC, Value.pointer none] Ty.ag33 Ty.sz33) (o_ (stG 0 Ty.sz33 ?_))))))
   refine z_ (n_ (rt_ ?_))
   first
    | have hd := R27.do_old (by omega) i1_1 (by assumption)
    | have hd := And.intro (R27.do_new (A := psA) (C := psC) (by omega) i1_1 (by assumption)) (R27.do_newP (by omega) i1_1 (by assumption))
   refine JX_rets [_] _ Tryz.results9 (fun w h => ⟨⟨_, rfl, load_blkN 0 [vL outA out.length outC, Value.pointer none] h rfl Ty.ag33 Ty.sz33 rfl⟩, trivial⟩) rfl _ (fun _ h => h.keep [false, false, false, true, true] rfl) ⟨outA, outC, psA, psC, ?_, ?_⟩
   ·have e_x0 : (out.length : Nat) = ((R27.doD ds c key psA psC).length) := by first | exact congrArg List.length hd.1 | exact hd.1 | exact hd.2
    exact congrArg (fun (x0 : Nat) => vG [vL outA x0 outC, Value.pointer none]) e_x0
   ·have e_y0 : (out : List Data) = (R27.doD ds c key psA psC) := by
     exact c27j1_
    have e_y1 : (ps : List Pair) = (R27.chg (R27.ofP ds c.Id) c key) := by
     exact c27j1_
    have e_all := (congr (congrArg (fun (y0 : List Data) (y1 : List Pair) => [Ent.row (.slice outA y0.length outC) 56 2 y0.length (y0.flatMap Data.enc), Ent.row (.slice psA y1.length psC) 54 2 y1.length (y1.flatMap Pair.enc)]) e_y0) e_y1)
    exact e_all
end Go.Proofs.YtmbinhhlfbgiaaaGreat

namespace Go.Proofs.YtmbinhhlfbgiaaaGreat
open Go.GV
namespace R27
def Srt (l : List Pair) : Prop := l.Pairwise fun p q => Ord.lt p.key q.key
section
variable {x : Pair} {l : List Pair}
theorem set_true (x : Pair) : ∀ (l o : List Pair), l.foldl (setStep x) (o, true) = (o ++ l.filter (fun p => decide (p.key ≠ x.key)), true)
  | [], o => by simp
  | p :: l, o => by
    rw [List.foldl_cons]
    have hs : setStep x (o, true) p = (if p.key ≠ x.key then o ++ [p] else o, true) := by unfold setStep; simp
    rw [hs, set_true x l, List.filter_cons]
    by_cases h : p.key = x.key
    · simp [h]
    · simp [h]
theorem set_false (x : Pair) : ∀ (l o : List Pair), Srt l → l.foldl (setStep x) (o, false) = if (∀ p ∈ l, Op.bytesLess p.key x.key = true) then (o ++ l, false) else (o ++ l.filter (fun p => Op.bytesLess p.key x.key) ++ [x] ++ l.filter (fun p => Op.bytesLess x.key p.key), true)
  | [], o, _ => by simp
  | p :: l, o, h => by
    obtain ⟨h1, h2⟩ := List.pairwise_cons.1 h
    rw [List.foldl_cons]
    by_cases hb : Op.bytesLess p.key x.key = true
    · have hne : p.key ≠ x.key := fun e => by rw [e, R26.less_self] at hb; cases hb
      have hs : setStep x (o, false) p = (o ++ [p], false) := by unfold setStep; simp [hb, hne]
      have hb2 : Op.bytesLess x.key p.key = false := by
        cases hh : Op.bytesLess x.key p.key with
        | false => rfl
        | true => exact absurd hh (Ord.asymm hb)
      rw [hs, set_false x l _ h2]
      have e : (∀ q ∈ p :: l, Op.bytesLess q.key x.key = true) ↔ ∀ q ∈ l, Op.bytesLess q.key x.key = true := by
        constructor
        · intro h q hq; exact h q (by simp [hq])
        · intro h q hq
          rcases List.mem_cons.1 hq with rfl | hq
          · exact hb
          · exact h q hq
      by_cases hh : ∀ q ∈ l, Op.bytesLess q.key x.key = true
      · rw [if_pos hh, if_pos (e.2 hh)]; simp
      · rw [if_neg hh, if_neg (fun g => hh (e.1 g))]; simp [hb, hb2]
    · have hb := (Bool.not_eq_true _).mp hb
      have hgt : ∀ q ∈ l, Ord.lt x.key q.key := fun q hq => by
        have h3 := h1 q hq
        rcases Ord.not_lt (a := p.key) (b := x.key) (by unfold Ord.lt; rw [hb]; decide) with h4 | h4
        · rw [h4]; exact h3
        · exact Ord.trans h4 h3
      have f1 : l.filter (fun p => Op.bytesLess p.key x.key) = [] := by
        rw [List.filter_eq_nil_iff]; intro q hq h5; exact Ord.asymm (hgt q hq) h5
      have f2 : l.filter (fun p => Op.bytesLess x.key p.key) = l := by
        rw [List.filter_eq_self]; intro q hq; exact hgt q hq
      have f3 : l.filter (fun p => decide (p.key ≠ x.key)) = l := by
        rw [List.filter_eq_self]; intro q hq; rw [decide_eq_true_eq]; intro e; exact Ord.irr _ (e ▸ hgt q hq)
      have hn : ¬ ∀ q ∈ p :: l, Op.bytesLess q.key x.key = true := fun g => by have := g p (by simp); rw [hb] at this; cases this
      rw [if_neg hn]
      by_cases he : p.key = x.key
      · have hs : setStep x (o, false) p = (o ++ [x], true) := by unfold setStep; simp [he, R26.less_self]
        rw [hs, set_true, f3, List.filter_cons, List.filter_cons, hb, f1, he, R26.less_self, f2]; simp
      · have hs : setStep x (o, false) p = (o ++ [x] ++ [p], true) := by unfold setStep; simp [hb, he]
        have hb2 : Op.bytesLess x.key p.key = true := by
          rcases Ord.tri p.key x.key with h4 | h4 | h4
          · unfold Ord.lt at h4; rw [hb] at h4; cases h4
          · exact absurd h4 he
          · exact h4
        rw [hs, set_true, f3, List.filter_cons, List.filter_cons, hb, f1, hb2, f2]; simp
theorem setP_true (l : List Pair) (x : Pair) : setP l x true = l.filter (fun p => decide (p.key ≠ x.key)) := by
  unfold setP setGo; rw [set_true]; simp
theorem setP_false (h : Srt l) (x : Pair) : setP l x false = l.filter (fun p => Op.bytesLess p.key x.key) ++ [x] ++ l.filter (fun p => Op.bytesLess x.key p.key) := by
  unfold setP setGo; rw [set_false x l [] h]
  by_cases hh : ∀ q ∈ l, Op.bytesLess q.key x.key = true
  · rw [if_pos hh]
    have f1 : l.filter (fun p => Op.bytesLess p.key x.key) = l := by rw [List.filter_eq_self]; exact hh
    have f2 : l.filter (fun p => Op.bytesLess x.key p.key) = [] := by
      rw [List.filter_eq_nil_iff]; intro q hq h5; exact Ord.asymm (hh q hq) h5
    rw [f1, f2]; simp
  · rw [if_neg hh]; simp
theorem set_erase (h : Srt l) (x : Pair) : Srt (setP l x true) ∧ ∀ p, p ∈ setP l x true ↔ p ∈ l ∧ p.key ≠ x.key := by
  rw [setP_true]
  exact ⟨List.Pairwise.sublist List.filter_sublist h, fun p => by rw [List.mem_filter, decide_eq_true_eq]⟩
theorem set_put (h : Srt l) (x : Pair) : Srt (setP l x false) ∧ ∀ p, p ∈ setP l x false ↔ (p ∈ l ∧ p.key ≠ x.key) ∨ p = x := by
  rw [setP_false h]
  constructor
  · unfold Srt
    rw [List.append_assoc, List.pairwise_append]
    refine ⟨List.Pairwise.sublist List.filter_sublist h, ?_, ?_⟩
    · rw [List.pairwise_append]
      refine ⟨by simp, List.Pairwise.sublist List.filter_sublist h, ?_⟩
      intro a ha b hb
      rw [List.mem_singleton] at ha; subst ha
      exact (List.mem_filter.1 hb).2
    · intro a ha b hb
      have h1 : Ord.lt a.key x.key := (List.mem_filter.1 ha).2
      rcases List.mem_append.1 hb with hb | hb
      · rw [List.mem_singleton] at hb; subst hb; exact h1
      · exact Ord.trans h1 (List.mem_filter.1 hb).2
  · intro p
    rw [List.mem_append, List.mem_append, List.mem_filter, List.mem_filter, List.mem_singleton]
    constructor
    · rintro ((h1 | h1) | h1)
      · exact .inl ⟨h1.1, fun e => by have := h1.2; rw [e, R26.less_self] at this; cases this⟩
      · exact .inr h1
      · exact .inl ⟨h1.1, fun e => by have := h1.2; rw [e, R26.less_self] at this; cases this⟩
    · rintro (⟨h1, h2⟩ | h1)
      · rcases Ord.tri p.key x.key with h4 | h4 | h4
        · exact .inl (.inl ⟨h1, h4⟩)
        · exact absurd h4 h2
        · exact .inr ⟨h1, h4⟩
      · exact .inl (.inr h1)
theorem srt_inj (h : Srt l) {p q : Pair} (hp : p ∈ l) (hq : q ∈ l) (e : p.key = q.key) : p = q := by
  induction l with
  | nil => cases hp
  | cons y l ih =>
    obtain ⟨h1, h2⟩ := List.pairwise_cons.1 h
    rcases List.mem_cons.1 hp with hp1 | hp1
    · rcases List.mem_cons.1 hq with hq1 | hq1
      · rw [hp1, hq1]
      · have := h1 q hq1; rw [← hp1, e] at this; exact absurd this (Ord.irr _)
    · rcases List.mem_cons.1 hq with hq1 | hq1
      · have := h1 p hp1; rw [← hq1, e] at this; exact absurd this (Ord.irr _)
      · exact ih h2 hp1 hq1
theorem getR_mem (k : Bytes) (l : List Pair) : (∃ old, getR l k = (old, 0) ∧ Pair.mk k old ∈ l) ∨ (getR l k = ([], 6) ∧ ∀ p ∈ l, p.key ≠ k) := by
  unfold getR
  cases h : l.find? fun p => decide (p.key = k) with
  | some p =>
    have h1 : p.key = k := by simpa using List.find?_some h
    have h2 := List.mem_of_find?_eq_some h
    refine .inl ⟨p.record, rfl, ?_⟩
    rw [← h1]; exact h2
  | none =>
    refine .inr ⟨rfl, fun p hp e => ?_⟩
    have := List.find?_eq_none.1 h p hp
    simp [e] at this
end
def does (f : Int → List Pair) (l : List Change) (key : Bytes) : Int → List Pair := l.foldl (fun f c id => if id = c.Id then chg (f id) c key else f id) f
theorem does_app (f : Int → List Pair) (l m : List Change) (key : Bytes) : does f (l ++ m) key = does (does f l key) m key := List.foldl_append
theorem does_at : ∀ (l : List Change) (f : Int → List Pair) (key : Bytes) (id : Int), does f l key id = ((l.filter fun c => decide (c.Id = id)).foldl (fun q c => chg q c key) (f id))
  | [], _, _, _ => rfl
  | c :: l, f, key, id => by
    show does (fun id => if id = c.Id then chg (f id) c key else f id) l key id = _
    rw [does_at l]
    by_cases h : c.Id = id
    · rw [List.filter_cons, if_pos (decide_eq_true h), List.foldl_cons, if_pos h.symm]
    · rw [if_neg (fun e : id = c.Id => h e.symm), List.filter_cons, if_neg (by simp [h])]
def er (c : Change) (old : Bytes) (th : Bool) (a : DataSet) : List Change := if C1 a c old th = true then [⟨1, a.Id, (R26.key a old).1 ++ c.Key, [], []⟩] else []
def pu (c : Change) (old : Bytes) (th : Bool) (a : DataSet) : List Change := if C2 a c old th = true then [⟨0, a.Id, (R26.key a c.Record).1 ++ c.Key, (R26.key a c.Record).1 ++ c.Key, []⟩] else []
section
variable {ds : List Data} {base : DataSet} {alts : List DataSet} {c : Change} {old : Bytes} {th : Bool}
theorem stepA_form (a : DataSet) (xs ys : List Change) : (stepA ds c old th a (xs, ys, 0)).1 = xs ++ er c old th a ∧ (stepA ds c old th a (xs, ys, 0)).2.1 = ys ++ pu c old th a := by
  rw [rp_cases (ds := ds) (xs := xs) (ys := ys) (rfl : C1 a c old th = C1 a c old th) (rfl : C2 a c old th = C2 a c old th)]
  exact ⟨rfl, rfl⟩
theorem stepsA_form : ∀ (l : List DataSet) (xs ys : List Change), (stepsA ds c old th l (xs, ys, 0)).2.2 = 0 → (stepsA ds c old th l (xs, ys, 0)).1 = xs ++ l.flatMap (er c old th) ∧ (stepsA ds c old th l (xs, ys, 0)).2.1 = ys ++ l.flatMap (pu c old th)
  | [], xs, ys, _ => by unfold stepsA; simp
  | a :: l, xs, ys, h => by
    have hc : stepsA ds c old th (a :: l) (xs, ys, 0) = stepsA ds c old th l (stepA ds c old th a (xs, ys, 0)) := rfl
    rw [hc] at h ⊢
    have hf := stepA_form (ds := ds) (c := c) (old := old) (th := th) a xs ys
    generalize hs : stepA ds c old th a (xs, ys, 0) = s at h hf ⊢
    obtain ⟨x1, y1, e⟩ := s
    by_cases he : e = 0
    · subst he
      obtain ⟨h1, h2⟩ := stepsA_form l x1 y1 h
      simp only at hf
      rw [h1, h2, hf.1, hf.2]; simp
    · rw [stepsA_err l (st := (x1, y1, e)) he] at h
      exact absurd h he
structure PlanOk (ds : List Data) (base : DataSet) (alts : List DataSet) (c : Change) : Prop where
  sph : isSphere base alts = true
  chg : isChange base c = true
  form : (c.Kind = 3 ∧ (plan ds base alts c).1 = own c :: alts.map (fun a => Change.mk 3 a.Id [] [] [])) ∨
    (c.Kind ≠ 3 ∧ ∃ old th, (plan ds base alts c).1 = own c :: (alts.flatMap (er c old th) ++ alts.flatMap (pu c old th)) ∧ (c.Kind = 2 → th = false) ∧ (c.Kind = 1 → th = true) ∧
      (th = true → Pair.mk c.Key old ∈ ofP ds base.Id) ∧ (th = false → c.Kind ≠ 2 → ∀ p ∈ ofP ds base.Id, p.key ≠ c.Key))
theorem plan_ok (h : (plan ds base alts c).2 = 0) : PlanOk ds base alts c := by
  have hsc : (isSphere base alts && isChange base c) = true := by
    cases hh : isSphere base alts && isChange base c with
    | true => rfl
    | false => unfold plan at h; rw [if_pos hh] at h; cases h
  have hs := hsc
  simp only [Bool.and_eq_true] at hs
  refine ⟨hs.1, hs.2, ?_⟩
  unfold plan at h ⊢
  rw [if_neg (by rw [hsc]; decide)] at h ⊢
  by_cases h3 : c.Kind = 3
  · rw [if_pos h3] at h ⊢; exact .inl ⟨h3, rfl⟩
  · rw [if_neg h3] at h ⊢
    refine .inr ⟨h3, ?_⟩
    by_cases hA : (oldR ds base c).2 ≠ 0 ∧ ((oldR ds base c).2 ≠ 6 ∨ c.Kind = 1)
    · rw [if_pos hA] at h; exact absurd h hA.1
    · rw [if_neg hA] at h ⊢
      by_cases hE : (steps ds c (oldR ds base c).1 (decide ((oldR ds base c).2 = 0)) alts).2.2 ≠ 0
      · rw [if_pos hE] at h; exact absurd h hE
      · rw [if_neg hE] at h ⊢
        have hf := stepsA_form (ds := ds) (c := c) (old := (oldR ds base c).1) (th := decide ((oldR ds base c).2 = 0)) alts [own c] [] (Decidable.not_not.1 hE)
        refine ⟨(oldR ds base c).1, decide ((oldR ds base c).2 = 0), ?_, ?_, ?_, ?_, ?_⟩
        · unfold steps; rw [hf.1, hf.2]; simp
        · intro h2; rw [oldB h2]; rfl
        · intro h1
          rw [decide_eq_true_eq]
          by_cases h0 : (oldR ds base c).2 = 0
          · exact h0
          · exact absurd ⟨h0, .inr h1⟩ hA
        · intro ht
          rw [decide_eq_true_eq] at ht
          have h2 : c.Kind ≠ 2 := fun h2 => by rw [oldB h2] at ht; cases ht
          rw [oldA h2] at ht ⊢
          rcases getR_mem c.Key (ofD ds base.Id).Pairs with ⟨o, e, hm⟩ | ⟨e, hm⟩
          · rw [e]; exact hm
          · rw [e] at ht; cases ht
        · intro ht h2
          rw [decide_eq_false_iff_not, oldA h2] at ht
          rcases getR_mem c.Key (ofD ds base.Id).Pairs with ⟨o, e, hm⟩ | ⟨e, hm⟩
          · rw [e] at ht; exact absurd rfl ht
          · exact hm
theorem own_id (c : Change) : (own c).Id = c.Id ∧ (own c).Kind = c.Kind ∧ (own c).Record = c.Record := by unfold own; split <;> simp
theorem own_chg (q : List Pair) (c : Change) : chg q (own c) c.Key = chg q c c.Key := by
  unfold own
  split
  · next h => unfold chg; simp [h]
  · rfl
theorem sph_facts (h : isSphere base alts = true) : isBase base = true ∧ alts.length ≤ 4 ∧ (∀ a ∈ alts, R26.valid base a = true) ∧ (alts.map (·.Id)).Nodup := by
  unfold isSphere at h
  simp only [Bool.and_eq_true, decide_eq_true_eq, List.all_eq_true] at h
  refine ⟨h.1.1.1, ?_, h.1.2, h.2⟩
  have := h.1.1.2; omega
theorem alt_facts {a : DataSet} (h : R26.valid base a = true) : R26.isAlt a = true ∧ a.Id ≠ base.Id ∧ a.KeyLength - a.AltLength = R26.keys base ∧ (base.Org = 3 ∨ base.Org = 1) := by
  have h2 := h
  rw [R26.valid_iff] at h2
  simp only [Bool.and_eq_true, decide_eq_true_eq] at h2
  unfold R26.valid at h
  simp only [Bool.and_eq_true, decide_eq_true_eq] at h
  have hb := R26.isBase_facts h.1.1.1
  have hs := (R26.shaped_iff a base.Length).1 h.1.2
  refine ⟨h2.1.1.1.2, ?_, by omega, hb.2.2.2.2.1⟩
  have h5 := hs.2.2.2.2.1
  have h6 := h.1.1.2
  intro e
  exact h5 (h6.trans e.symm)
theorem flat_other {g : DataSet → List Change} (hg : ∀ a, ∀ x ∈ g a, x.Id = a.Id) {l : List DataSet} {id : Int} (h : ∀ a ∈ l, a.Id ≠ id) : (l.flatMap g).filter (fun c => decide (c.Id = id)) = [] := by
  rw [List.filter_eq_nil_iff]; intro x hx h2
  obtain ⟨b, hb, hxb⟩ := List.mem_flatMap.1 hx
  exact h b hb ((hg b x hxb).symm.trans (of_decide_eq_true h2))
theorem flat_id {g : DataSet → List Change} (hg : ∀ a, ∀ x ∈ g a, x.Id = a.Id) (l : List DataSet) (hn : (l.map (·.Id)).Nodup) (a : DataSet) (ha : a ∈ l) : (l.flatMap g).filter (fun c => decide (c.Id = a.Id)) = g a := by
  induction l with
  | nil => cases ha
  | cons b l ih =>
    rw [List.map_cons, List.nodup_cons] at hn
    rw [List.flatMap_cons, List.filter_append]
    rcases List.mem_cons.1 ha with ha | ha
    · subst ha
      rw [flat_other hg (l := l) (id := a.Id) (fun b hb e => hn.1 (List.mem_map.2 ⟨b, hb, e⟩)), List.append_nil, List.filter_eq_self]
      intro x hx; exact decide_eq_true (hg a x hx)
    · rw [ih hn.2 ha]
      have : (g b).filter (fun c => decide (c.Id = a.Id)) = [] := by
        rw [List.filter_eq_nil_iff]; intro x hx h2
        exact hn.1 (List.mem_map.2 ⟨a, ha, ((hg b x hx).symm.trans (of_decide_eq_true h2)).symm⟩)
      rw [this]; rfl
theorem er_id (a : DataSet) : ∀ x ∈ er c old th a, x.Id = a.Id := fun x hx => by
  unfold er at hx; split at hx
  · rw [List.mem_singleton] at hx; subst hx; rfl
  · cases hx
theorem pu_id (a : DataSet) : ∀ x ∈ pu c old th a, x.Id = a.Id := fun x hx => by
  unfold pu at hx; split at hx
  · rw [List.mem_singleton] at hx; subst hx; rfl
  · cases hx
theorem mem_ents {a : DataSet} {l : List Pair} {s : Bytes} : s ∈ R26.ents a l ↔ ∃ x ∈ l, (R26.key a x.record).2 = true ∧ (x.key.length : Int) = a.KeyLength - a.AltLength ∧ s = (R26.key a x.record).1 ++ x.key := by
  unfold R26.ents R26.ent
  rw [List.mem_flatMap]
  constructor
  · rintro ⟨x, hx, h⟩
    split at h
    · next hh => exact ⟨x, hx, hh.1, hh.2, by simpa using h⟩
    · cases h
  · rintro ⟨x, hx, h1, h2, rfl⟩
    exact ⟨x, hx, by rw [if_pos ⟨h1, h2⟩]; simp⟩
def IsIx (a : DataSet) (A B : List Pair) : Prop := Srt A ∧ ∀ p, p ∈ A ↔ (p.record = p.key ∧ p.key ∈ R26.ents a B)
theorem alt_step {a : DataSet} {A B B' : List Pair} {n : Int} (hA : IsIx a A B) (hB : Srt B) (hl : ∀ p ∈ B, (p.key.length : Int) = n) (hn : a.KeyLength - a.AltLength = n) (hk : (c.Key.length : Int) = n)
    (hB' : ∀ p, p ∈ B' ↔ (p ∈ B ∧ p.key ≠ c.Key) ∨ (c.Kind ≠ 1 ∧ p = ⟨c.Key, c.Record⟩)) (ho : th = true → Pair.mk c.Key old ∈ B) (hno : th = false → ∀ p ∈ B, p.key ≠ c.Key) :
    IsIx a ((er c old th a ++ pu c old th a).foldl (fun q x => chg q x c.Key) A) B' := by
  have hsuf : ∀ {x y : Bytes}, (x.length : Int) = n → (y.length : Int) = n → ∀ {u v : Bytes}, u ++ x = v ++ y → u = v ∧ x = y := fun {x y} hx hy {u v} e => by
    have h2 : u.length = v.length := by have := congrArg List.length e; simp only [List.length_append] at this; omega
    exact List.append_inj e h2
  -- what the index must hold
  have want : ∀ s, s ∈ R26.ents a B' ↔ (s ∈ R26.ents a B ∧ ¬ (had a old th = true ∧ s = (R26.key a old).1 ++ c.Key)) ∨ (has a c = true ∧ s = (R26.key a c.Record).1 ++ c.Key) := by
    intro s
    rw [mem_ents, mem_ents]
    constructor
    · rintro ⟨x, hx, h1, h2, rfl⟩
      rcases (hB' x).1 hx with ⟨hxB, hne⟩ | ⟨hk1, rfl⟩
      · refine .inl ⟨⟨x, hxB, h1, h2, rfl⟩, fun ⟨_, e⟩ => hne (hsuf (hl x hxB) hk e).2⟩
      · refine .inr ⟨?_, rfl⟩
        unfold has; rw [decide_eq_true hk1, Bool.and_true]; exact h1
    · rintro (⟨⟨x, hx, h1, h2, rfl⟩, hnot⟩ | ⟨hh, rfl⟩)
      · refine ⟨x, (hB' x).2 (.inl ⟨hx, fun e => ?_⟩), h1, h2, rfl⟩
        cases ht : th with
        | false => exact hno ht x hx e
        | true =>
          have hxo : x = Pair.mk c.Key old := srt_inj hB hx (ho ht) e
          subst hxo
          refine hnot ⟨?_, rfl⟩
          unfold had; rw [ht, Bool.and_true]; exact h1
      · unfold has at hh
        simp only [Bool.and_eq_true, decide_eq_true_eq] at hh
        exact ⟨⟨c.Key, c.Record⟩, (hB' _).2 (.inr ⟨hh.2, rfl⟩), hh.1, by rw [hn]; exact hk, rfl⟩
  have hadin : had a old th = true → (R26.key a old).1 ++ c.Key ∈ R26.ents a B := fun h => by
    unfold had at h
    simp only [Bool.and_eq_true] at h
    exact mem_ents.2 ⟨_, ho h.2, h.1, by rw [hn]; exact hk, rfl⟩
  have e1 : ∀ x : Change, x.Kind = 1 → ∀ q, chg q x c.Key = setP q ⟨x.Key, []⟩ true := fun x hx q => (chg1 hx).symm
  have e0 : ∀ x : Change, x.Kind = 0 → ∀ q, chg q x c.Key = setP q ⟨x.Key, x.Record⟩ false := fun x hx q => (chg0 hx).symm
  obtain ⟨hA1, hA2⟩ := hA
  -- after the erase
  have hE : ∃ A1, (er c old th a).foldl (fun q x => chg q x c.Key) A = A1 ∧ Srt A1 ∧ ∀ p, p ∈ A1 ↔ (p ∈ A ∧ ¬ (C1 a c old th = true ∧ p.key = (R26.key a old).1 ++ c.Key)) := by
    refine ⟨_, rfl, ?_⟩
    unfold er
    by_cases hc1 : C1 a c old th = true
    · rw [if_pos hc1, List.foldl_cons, List.foldl_nil, e1 _ rfl]
      have := set_erase hA1 ⟨(R26.key a old).1 ++ c.Key, []⟩
      exact ⟨this.1, fun p => by rw [this.2]; simp [hc1]⟩
    · rw [if_neg hc1]
      exact ⟨hA1, fun p => by simp [hc1]⟩
  obtain ⟨A1, hE1, hE2, hE3⟩ := hE
  rw [List.foldl_append, hE1]
  have hP : Srt ((pu c old th a).foldl (fun q x => chg q x c.Key) A1) ∧ ∀ p, p ∈ (pu c old th a).foldl (fun q x => chg q x c.Key) A1 ↔ ((p ∈ A1 ∧ ¬ (C2 a c old th = true ∧ p.key = (R26.key a c.Record).1 ++ c.Key)) ∨ (C2 a c old th = true ∧ p = ⟨(R26.key a c.Record).1 ++ c.Key, (R26.key a c.Record).1 ++ c.Key⟩)) := by
    unfold pu
    by_cases hc2 : C2 a c old th = true
    · rw [if_pos hc2, List.foldl_cons, List.foldl_nil, e0 _ rfl]
      have := set_put hE2 ⟨(R26.key a c.Record).1 ++ c.Key, (R26.key a c.Record).1 ++ c.Key⟩
      exact ⟨this.1, fun p => by rw [this.2]; simp [hc2]⟩
    · rw [if_neg hc2]
      exact ⟨hE2, fun p => by simp [hc2]⟩
  refine ⟨hP.1, fun p => ?_⟩
  rw [hP.2, hE3, hA2, want]
  have hcc1 : C1 a c old th = (had a old th && (!(has a c) || decide ((R26.key a old).1 ≠ (R26.key a c.Record).1))) := rfl
  have hcc2 : C2 a c old th = (has a c && (!(had a old th) || decide ((R26.key a old).1 ≠ (R26.key a c.Record).1))) := rfl
  cases hh : had a old th with
  | false =>
    have c1 : C1 a c old th = false := by rw [hcc1, hh]; rfl
    cases hs : has a c with
    | false =>
      have c2 : C2 a c old th = false := by rw [hcc2, hs]; rfl
      simp [c1, c2]
    | true =>
      have c2 : C2 a c old th = true := by rw [hcc2, hs, hh]; rfl
      simp only [c1, c2, Bool.false_eq_true, false_and, not_false_eq_true, and_true, true_and]
      constructor
      · rintro (⟨h1, h2⟩ | rfl)
        · exact ⟨h1.1, .inl h1.2⟩
        · exact ⟨rfl, .inr rfl⟩
      · rintro ⟨h1, h2⟩
        by_cases e : p.key = (R26.key a c.Record).1 ++ c.Key
        · refine .inr ?_
          cases p; simp only at e h1; rw [h1, e]
        · exact .inl ⟨⟨h1, h2.resolve_right e⟩, e⟩
  | true =>
    have hin := hadin hh
    cases hs : has a c with
    | false =>
      have c1 : C1 a c old th = true := by rw [hcc1, hh, hs]; rfl
      have c2 : C2 a c old th = false := by rw [hcc2, hs]; rfl
      simp only [c1, c2, Bool.false_eq_true, false_and, not_false_eq_true, and_true, true_and, or_false]
      exact and_assoc
    | true =>
      by_cases e : (R26.key a old).1 = (R26.key a c.Record).1
      · have c1 : C1 a c old th = false := by rw [hcc1, hh, hs, decide_eq_false (by simp [e])]; rfl
        have c2 : C2 a c old th = false := by rw [hcc2, hh, hs, decide_eq_false (by simp [e])]; rfl
        simp only [c1, c2, Bool.false_eq_true, false_and, not_false_eq_true, and_true, true_and, or_false]
        rw [e] at hin ⊢
        constructor
        · rintro ⟨h1, h2⟩
          by_cases e2 : p.key = (R26.key a c.Record).1 ++ c.Key
          · exact ⟨h1, .inr e2⟩
          · exact ⟨h1, .inl ⟨h2, e2⟩⟩
        · rintro ⟨h1, h2 | h2⟩
          · exact ⟨h1, h2.1⟩
          · exact ⟨h1, h2 ▸ hin⟩
      · have c1 : C1 a c old th = true := by rw [hcc1, hh, hs, decide_eq_true e]; rfl
        have c2 : C2 a c old th = true := by rw [hcc2, hh, hs, decide_eq_true e]; rfl
        simp only [c1, c2, true_and]
        constructor
        · rintro (⟨⟨⟨h1, h2⟩, h3⟩, h4⟩ | rfl)
          · exact ⟨h1, .inl ⟨h2, h3⟩⟩
          · exact ⟨rfl, .inr rfl⟩
        · rintro ⟨h1, h2⟩
          by_cases e2 : p.key = (R26.key a c.Record).1 ++ c.Key
          · refine .inr ?_
            cases p; simp only at e2 h1; rw [h1, e2]
          · have h3 := h2.resolve_right e2
            exact .inl ⟨⟨⟨h1, h3.1⟩, h3.2⟩, e2⟩
end
end R27
end Go.Proofs.YtmbinhhlfbgiaaaGreat
