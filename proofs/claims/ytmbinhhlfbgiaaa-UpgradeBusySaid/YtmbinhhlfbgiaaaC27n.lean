/- contracts C27n -/
import Derived.Test.YtmbinhhlfbgiaaaUpgradeBusy17
namespace Go.Proofs.Ytmbinhhlfbgiaaa
open Go.GV
set_option linter.unusedVariables false
set_option linter.unusedSimpArgs false
theorem c27n0_ {p : Prop} (h : p := by first | exact R27.begA (by assumption) | exact R27.begB (by assumption)) : p := h
theorem c27n1_ {p : Prop} (h : p := by rw [flat_length Pair.enc 2 Pair.enc_len]; first | omega | (simp; omega) | (simp_all; omega) | (simp_all; done)) : p := h
theorem c27n2_ {p : Prop} (h : p := by first | omega | (simp only [List.length_append, List.length_cons, List.length_nil]; omega) | (simp; omega) | (simp_all; omega)) : p := h
theorem c27n4_ {p : Prop} (h : p := by first | exact R27.qg_ok hd | exact R27.qg_busy (by assumption)) : p := h
theorem c27n5_ {p : Prop} (h : p := by first | exact R27.qn_ok hd | exact R27.qn_busy (by assumption)) : p := h
theorem c27n6_ {p : Prop} (h : p := by first | exact (decide_eq_false (by omega)).symm | (by_cases hb1 : b = 1 <;> simp [hb1]; done) | (rw [decide_eq_decide]; omega) | exact (R27.dec_le (by omega)).symm | exact (R27.dec_gt (by omega)).symm) : p := h
set_option maxRecDepth 20000 in
theorem f53_okB (ds : List Data) (dsA : Option Addr) (dsC : Nat) (p : Nat) (b : Int) (w : World) (dsR : RO [p] w dsA (ds.flatMap Data.enc)) (dsN : ∀ i : Nat, RO [p] w (ds.getD i default).PairsA (((ds.getD i default).Pairs).flatMap Pair.enc)) (q0 : b ≤ 1000) (hg : Give [p] w [Ent.blk p 45 [vI b]]) : Calls Try.prog 53 #[vG [vL dsA ds.length dsC, pB p 0]] w (Gives [p] w fun v L => v = vB (decide (b = 1)) ∧ L = [Ent.blk p 45 [vI (R27.dec b)]]) := by
 refine calls_J [p] 30 Try.func53 rfl Try.ntmps53 [(0, _)] rfl rfl hg ?_
 refine q_ (g_ (o_ (bxG fun b1 => ?_)))
 refine s_ av_ (z_ (n_ (q_ (q_ (g_ (s_ (fA 1 Ty.fi34_1) (r_ (ld_ 0 Ty.sc32) (s_ (x_eql_ptr Try.underlying32 rfl rfl) (s_ mv_ (sg_ rfl (fA 1 Ty.fi34_1) (rg_ rfl (ld_ 0 Ty.sc32) (sg_ rfl (x_nilCheck rfl) (sg_ rfl (fA 0 Ty.fi45_0) ?_)))))))))))))
 refine rg_ rfl (ld_ 1 Ty.sc3) (sg_ rfl (x_leq_i rfl rfl) (jr_ (vB (decide (b ≤ 0))) (z_ (n_ ?_))))
 refine ifd (fun h2w h2 => ?_) (fun h2w h2 => ?_)
 ·refine q_ (g_ (s_ av_ (z_ (n_ (rt_ (nr_ ?_))))))
  refine JX_rets [_] _ Try.results53 (fun w h => ⟨rfl, trivial⟩) rfl _ (fun _ h => h.keep [false, true] rfl) ⟨?_, ?_⟩
  ·have e_x0 : (false : Bool) = (decide (b = 1)) := by first | exact (decide_eq_false (by omega)).symm | (by_cases hb1 : b = 1 <;> simp [hb1]; done) | (rw [decide_eq_decide]; omega) | exact (R27.dec_le (by omega)).symm | exact (R27.dec_gt (by omega)).symm
   exact congrArg (fun (x0 : Bool) => vB x0) e_x0
  ·have e_y0 : (b : Int) = (R27.dec b) := by
    exact c27n6_
   have e_all := (congrArg (fun (y0 : Int) => [Ent.blk p 45 [vI y0]]) e_y0)
   exact e_all
 ·refine sk_ (n_ (q_ ?_))
  refine drU [] [10] 11 Ty.mixed ?_
  refine jp_ 0 rfl (fA 1 Ty.fi34_1) ?_
  refine JA_early 1 (pB p 0) rfl (by kernel_rfl) (by kernel_rfl) (by kernel_rfl) rfl (by kernel_rfl) (fun _ _ _ h => h) rfl trivial (x_load 0 rfl rfl Ty.sc32 rfl) ?_
  refine jp_ 2 rfl (fA 1 Ty.fi34_1) ?_
  refine JA_early 3 (pB p 0) rfl (by kernel_rfl) (by kernel_rfl) (by kernel_rfl) rfl (by kernel_rfl) (fun _ _ _ h => h) rfl trivial (x_load 0 rfl rfl Ty.sc32 rfl) ?_
  refine jp_ 4 rfl (x_nilCheck rfl) (jp_ 5 rfl (fA 0 Ty.fi45_0) ?_)
  refine JA_early 6 (vI b) rfl (by kernel_rfl) (by kernel_rfl) (by kernel_rfl) rfl (by kernel_rfl) (fun _ _ _ h => h) rfl trivial (x_load 1 rfl rfl Ty.sc3 rfl) ?_
  refine jp_ 7 rfl (x_sub_i (a := b) (b := 1) rfl rfl (by omega) (by omega)) (jp_ 8 rfl (x_nilCheck rfl) (jp_ 9 rfl (fA 0 Ty.fi45_0) (j1_ 10 (jio_ rfl (st1 1 Ty.sz3 ?_)) (fun _ h => ⟨h.keep [false, false] rfl, fun _ => h⟩))))
  refine JA_done (by kernel_rfl) (gl_ rfl (fun _ h => h.keep [false, false] rfl)) ?_
  refine n_ (q_ (g_ (s_ (fA 1 Ty.fi34_1) (r_ (ld_ 0 Ty.sc32) (s_ (x_nilCheck rfl) (s_ (fA 0 Ty.fi45_0) (r_ (ld_ 1 Ty.sc3) (s_ (x_eql_i rfl rfl) (s_ av_ (z_ (xk_ [2] ?_)))))))))))
  refine n_ (rt_ ?_)
  refine JX_rets [_] _ Try.results53 (fun w h => ⟨rfl, trivial⟩) rfl _ (fun _ h => h.keep [false, true] rfl) ⟨?_, ?_⟩
  ·have e_x0 : (decide (b - 1 = 0) : Bool) = (decide (b = 1)) := by first | exact (decide_eq_false (by omega)).symm | (by_cases hb1 : b = 1 <;> simp [hb1]; done) | (rw [decide_eq_decide]; omega) | exact (R27.dec_le (by omega)).symm | exact (R27.dec_gt (by omega)).symm
   exact congrArg (fun (x0 : Bool) => vB x0) e_x0
  ·have e_y0 : (b - 1 : Int) = (R27.dec b) := by
    exact c27n6_
   have e_all := (congrArg (fun (y0 : Int) => [Ent.blk p 45 [vI y0]]) e_y0)
   exact e_all
set_option maxRecDepth 20000 in
theorem f38_okB (ds : List Data) (dsA : Option Addr) (dsC : Nat) (id : Int) (p : Nat) (b : Int) (w : World) (dsR : RO [p] w dsA (ds.flatMap Data.enc)) (dsN : ∀ i : Nat, RO [p] w (ds.getD i default).PairsA (((ds.getD i default).Pairs).flatMap Pair.enc)) (q0 : ds.length ≤ 1000) (q1 : ∀ i, (ds.getD i default).Pairs.length ≤ 1000) (hg : Give [p] w [Ent.blk p 45 [vI b]]) : Calls Try.prog 38 #[vG [vL dsA ds.length dsC, pB p 0], vI id] w (Gives [p] w fun v L => v = vL ((R27.ofD ds id).PairsA) ((R27.ofD ds id).Pairs.length) ((R27.ofD ds id).PairsC) ∧ L = [Ent.blk p 45 [vI b]]) := by
 refine calls_J [p] 27 Try.func38 rfl Try.ntmps38 [(0, _), (1, _)] rfl rfl hg ?_
 refine q_ (g_ (o_ (bxG fun b1 => ?_)))
 refine s_ av_ (z_ (n_ (q_ (q_ (g_ (s_ av_ (z_ (n_ (k_ ?_)))))))))
 refine J_loop (X := Nat) (fun (k : Nat) => (k ≤ ds.length) ∧ (∀ i, i < k → (ds.getD i default).Id ≠ id)) (fun (k : Nat) => [(1, vI id), (2, pB b1 0), (5, vI ((k : Nat) : Int))]) (fun (k : Nat) => [Ent.blk b1 34 [vL dsA ds.length dsC, pB p 0], Ent.blk p 45 [vI b]]) (fun (k : Nat) => ds.length - k) (0 : Nat) ?_ ⟨rfl, rfl, rfl, trivial⟩ (fun _ h => h) ?_
 ·try dsimp only
  refine ⟨?_, ?_⟩
  ·first | rfl | omega | (simp_all; done) | (simp_all; omega)
  ·intro i hi; omega
 intro k hI1
 obtain ⟨i1_0, i1_1⟩ := hI1
 try dsimp only at i1_0
 try dsimp only at i1_1
 try dsimp only
 refine q_ (q_ (g_ (s_ mv_ (s_ (fA 0 Ty.fi34_0) (r_ (ld_ 0 Ty.sc22) (s_ (lnS Try.underlying22) (s_ (x_lss_i rfl rfl) (z_ (n_ ?_)))))))))
 refine ifd (fun h2w h2 => ?_) (fun h2w h2 => ?_)
 ·refine sk_ (n_ (q_ (k_ (q_ (g_ (s_ (fA 0 Ty.fi34_0) (r_ (ld_ 0 Ty.sc22) (s_ mv_ (r_ (ixF Data.enc_len (cells_ro dsR) Try.underlying22 Ty.sz67) (s_ (fB0 Ty.fi67_0) (r_ (ldF0 Data.enc_len (cells_ro dsR) Ty.sc3) (s_ mv_ (s_ (x_eql_i rfl rfl) (z_ (n_ ?_)))))))))))))))
  refine ifd (fun h3w h3 => ?_) (fun h3w h3 => ?_)
  ·refine q_ (g_ (s_ (fA 0 Ty.fi34_0) (r_ (ld_ 0 Ty.sc22) (s_ mv_ (r_ (ixF Data.enc_len (cells_ro dsR) Try.underlying22 Ty.sz67) (s_ (fB Ty.fi67_1) (r_ (ldF 1 Data.enc_len (cells_ro dsR) Ty.sc50) (s_ av_ (z_ (xk_ [1, 2, 5, 4] ?_))))))))))
   refine n_ (rt_ (kq_ (nr_ (rr_ (kq_ (nr_ ?_))))))
   refine JX_rets [_] _ Try.results38 (fun w h => ⟨rfl, trivial⟩) rfl _ (fun _ h => h.keep [false, true] rfl) ⟨?_, ?_⟩
   ·have e_x0 : ((ds.getD k default) : Data) = (R27.ofD ds id) := by first | exact R27.ofD_hit (by omega) i1_1 (by assumption) | exact R27.ofD_miss (by omega) i1_1
    exact congrArg (fun (x0 : Data) => vL x0.PairsA x0.Pairs.length x0.PairsC) e_x0
   ·rfl
  ·refine sk_ (kx_ (n_ (g_ (s_ mv_ (s_ (x_add_n (a := k) (b := 1) rfl rfl (by omega)) (s_ av_ (z_ ?_)))))))
   refine JX_round (k + 1 : Nat) ?_ ?_ ⟨rfl, rfl, rfl, trivial⟩ (fun _ h => h)
   ·try dsimp only
    refine ⟨?_, ?_⟩
    ·first | rfl | omega | (simp_all; done) | (simp_all; omega)
    ·intro i hi; by_cases hik : i = k
     ·subst hik; assumption
     ·exact i1_1 i (by omega)
   ·try dsimp only
    first | omega | (simp; omega) | (simp_all; omega)
 ·refine J_exit (ne_ (re_ (kh_ (n_ (q_ ?_)))))
  refine g_ (s_ av_ (z_ (n_ (rt_ ?_))))
  refine JX_rets [_] _ Try.results38 (fun w h => ⟨rfl, trivial⟩) rfl _ (fun _ h => h.keep [false, true] rfl) ⟨?_, ?_⟩
  ·have e_x0 : ((default : Data) : Data) = (R27.ofD ds id) := by first | exact R27.ofD_hit (by omega) i1_1 (by assumption) | exact R27.ofD_miss (by omega) i1_1
   exact congrArg (fun (x0 : Data) => vL x0.PairsA x0.Pairs.length x0.PairsC) e_x0
  ·rfl
set_option maxRecDepth 20000 in
theorem f32_okB (ds : List Data) (dsA : Option Addr) (dsC : Nat) (id : Int) (q : Bytes) (p : Nat) (b : Int) (w : World) (dsR : RO [p] w dsA (ds.flatMap Data.enc)) (dsN : ∀ i : Nat, RO [p] w (ds.getD i default).PairsA (((ds.getD i default).Pairs).flatMap Pair.enc)) (q0 : ds.length ≤ 1000) (q1 : ∀ i, (ds.getD i default).Pairs.length ≤ 1000) (q2 : b ≤ 1000) (hg : Give [p] w [Ent.blk p 45 [vI b]]) : Calls Try.prog 32 #[vG [vL dsA ds.length dsC, pB p 0], vI id, vS q] w (Gives [p] w fun v L => ∃ g : Bytes, ∃ ge : Int, ∃ b2 : Int, v = Value.tuple #[vS g, vI ge] ∧ L = [Ent.blk p 45 [vI b2]] ∧ (R27.QG (g, ge) (R27.getR (R27.ofD ds id).Pairs q) b b2) ∧ (b2 ≤ 1000)) := by
 refine calls_J [p] 33 Try.func32 rfl Try.ntmps32 [(0, _), (1, _), (2, _)] rfl rfl hg ?_
 refine q_ (g_ (o_ (bxG fun b1 => ?_)))
 refine s_ av_ (s_ av_ (z_ (n_ (q_ (q_ (g_ (r_ (ldN 0 [vL dsA ds.length dsC, pB p 0] Ty.ag34 Ty.sz34) ?_)))))))
 refine JO_call [p] [Ent.blk p 45 [vI b]] [Ent.blk b1 34 [vL dsA ds.length dsC, pB p 0]] rfl trivial (fun _ => x_call Ty.ca53 rfl) (fun _ h => (h.front 1 _ rfl).keep [true, true] rfl) (own_mem rfl) (fun w hS => f53_okB ds dsA dsC p b w (dsR.on hS (own_mem rfl)) (fun i => (dsN i).on hS (own_mem rfl)) hy_ (hS.give (own_in rfl))) ?_
 rintro _ _ ⟨rfl, rfl⟩
 refine z_ (n_ ?_)
 refine ifd (fun h2w h2 => ?_) (fun h2w h2 => ?_)
 ·refine q_ (g_ (s_ av_ (s_ av_ (z_ (n_ (rt_ (nr_ ?_)))))))
  first
   | have hd := R27.get_hit (by omega) i1_1 (by assumption)
   | have hd := R27.get_miss (by omega) i1_1
   | have hd := trivial
  refine JX_rets [_, _] (Value.tuple #[_, _]) Try.results32 (fun w h => ⟨rfl, rfl, trivial⟩) rfl _ (fun _ h => h.keep [true, false] rfl) ⟨[], 15, (R27.dec b), ?_, ?_, ?_, ?_⟩
  ·rfl
  ·rfl
  ·exact c27n4_
  ·exact R27.dec_1000 (by assumption)
 ·refine sk_ (n_ (q_ (g_ (r_ (ldN 1 [vL dsA ds.length dsC, pB p 0] Ty.ag34 Ty.sz34) (s_ mv_ ?_)))))
  refine JO_call [p] [Ent.blk p 45 [vI (R27.dec b)]] [Ent.blk b1 34 [vL dsA ds.length dsC, pB p 0]] rfl trivial (fun _ => x_call Ty.ca38 rfl) (fun _ h => h) (own_mem rfl) (fun w hS => f38_okB ds dsA dsC id p (R27.dec b) w (dsR.on hS (own_mem rfl)) (fun i => (dsN i).on hS (own_mem rfl)) hy_ hy_ (hS.give (own_in rfl))) ?_
  rintro _ _ ⟨rfl, rfl⟩
  have ha3 := R27.ofD_len (by assumption) id
  refine s_ av_ (z_ (n_ (q_ (q_ (g_ (s_ av_ (z_ (n_ (k_ ?_)))))))))
  refine J_loop (X := Nat) (fun (k : Nat) => (k ≤ (R27.ofD ds id).Pairs.length) ∧ (∀ i, i < k → ((R27.ofD ds id).Pairs.getD i default).key ≠ q)) (fun (k : Nat) => [(2, vS q), (8, vL ((R27.ofD ds id).PairsA) ((R27.ofD ds id).Pairs.length) ((R27.ofD ds id).PairsC)), (9, vI ((k : Nat) : Int))]) (fun (k : Nat) => [Ent.blk p 45 [vI (R27.dec b)]]) (fun (k : Nat) => (R27.ofD ds id).Pairs.length - k) (0 : Nat) ?_ ⟨rfl, rfl, rfl, trivial⟩ (fun _ h => h.keep [true, false] rfl) ?_
  ·try dsimp only
   refine ⟨?_, ?_⟩
   ·first | rfl | omega | (simp_all; done) | (simp_all; omega)
   ·intro i hi; omega
  intro k hI1
  obtain ⟨i1_0, i1_1⟩ := hI1
  try dsimp only at i1_0
  try dsimp only at i1_1
  try dsimp only
  refine q_ (q_ (g_ (s_ mv_ (s_ mv_ (s_ (lnS Try.underlying50) (s_ (x_lss_i rfl rfl) (z_ (n_ ?_))))))))
  refine ifd (fun h4w h4 => ?_) (fun h4w h4 => ?_)
  ·refine sk_ (n_ (q_ (k_ (q_ (g_ (s_ mv_ (s_ mv_ (r_ (x_indexAddr_at (k := k) (off := k * 2) (cells_ro (R27.ofD_ro dsN id)) Try.underlying50 Ty.sz53 rfl rfl lt_ c27n1_ rfl) (s_ (fB0 Ty.fi53_0) (r_ (ldF0 Pair.enc_len (cells_ro (R27.ofD_ro dsN id)) Ty.sc9) (s_ mv_ (s_ (x_eql_s rfl rfl) (z_ (n_ ?_))))))))))))))
   refine ifd (fun h5w h5 => ?_) (fun h5w h5 => ?_)
   ·refine q_ (g_ (s_ mv_ (s_ mv_ (r_ (x_indexAddr_at (k := k) (off := k * 2) (cells_ro (R27.ofD_ro dsN id)) Try.underlying50 Ty.sz53 rfl rfl lt_ c27n1_ rfl) (s_ (fB Ty.fi53_1) (r_ (ldF 1 Pair.enc_len (cells_ro (R27.ofD_ro dsN id)) Ty.sc9) (s_ av_ (s_ av_ (z_ (xk_ [2, 8, 9, 6, 7] ?_))))))))))
    refine n_ (rt_ (kq_ (nr_ (rr_ (kq_ (nr_ ?_))))))
    first
     | have hd := R27.get_hit (by omega) i1_1 (by assumption)
     | have hd := R27.get_miss (by omega) i1_1
     | have hd := trivial
    refine JX_rets [_, _] (Value.tuple #[_, _]) Try.results32 (fun w h => ⟨rfl, rfl, trivial⟩) rfl _ (fun _ h => h) ⟨(((R27.ofD ds id).Pairs).getD k default).record, 0, (R27.dec b), ?_, ?_, ?_, ?_⟩
    ·rfl
    ·rfl
    ·exact c27n4_
    ·exact R27.dec_1000 (by assumption)
   ·refine sk_ (kx_ (n_ (g_ (s_ mv_ (s_ (x_add_n (a := k) (b := 1) rfl rfl (by omega)) (s_ av_ (z_ ?_)))))))
    refine JX_round (k + 1 : Nat) ?_ ?_ ⟨rfl, rfl, rfl, trivial⟩ (fun _ h => h)
    ·try dsimp only
     refine ⟨?_, ?_⟩
     ·first | rfl | omega | (simp_all; done) | (simp_all; omega)
     ·intro i hi; by_cases hik : i = k
      ·subst hik; assumption
      ·exact i1_1 i (by omega)
    ·try dsimp only
     first | omega | (simp; omega) | (simp_all; omega)
  ·refine J_exit (ne_ (re_ (kh_ (n_ (q_ ?_)))))
   refine g_ (s_ av_ (s_ av_ (z_ (n_ (rt_ ?_)))))
   first
    | have hd := R27.get_hit (by omega) i1_1 (by assumption)
    | have hd := R27.get_miss (by omega) i1_1
    | have hd := trivial
   refine JX_rets [_, _] (Value.tuple #[_, _]) Try.results32 (fun w h => ⟨rfl, rfl, trivial⟩) rfl _ (fun _ h => h) ⟨[], 6, (R27.dec b), ?_, ?_, ?_, ?_⟩
   ·rfl
   ·rfl
   ·exact c27n4_
   ·exact R27.dec_1000 (by assumption)
set_option maxRecDepth 20000 in
theorem f33_okB (ds : List Data) (dsA : Option Addr) (dsC : Nat) (id : Int) (q : Bytes) (p : Nat) (b : Int) (w : World) (dsR : RO [p] w dsA (ds.flatMap Data.enc)) (dsN : ∀ i : Nat, RO [p] w (ds.getD i default).PairsA (((ds.getD i default).Pairs).flatMap Pair.enc)) (q0 : ds.length ≤ 1000) (q1 : ∀ i, (ds.getD i default).Pairs.length ≤ 1000) (q2 : b ≤ 1000) (hg : Give [p] w [Ent.blk p 45 [vI b]]) : Calls Try.prog 54 #[vG [vL dsA ds.length dsC, pB p 0], vI id, vS q] w (Gives [p] w fun v L => ∃ n : Bytes, ∃ r : Bytes, ∃ e : Int, ∃ b2 : Int, v = Value.tuple #[vS n, vS r, vI e] ∧ L = [Ent.blk p 45 [vI b2]] ∧ (R27.QN (n, r, e) (R27.nextR (R27.ofD ds id).Pairs q) b b2) ∧ (b2 ≤ 1000)) := by
 refine calls_J [p] 39 Try.func54 rfl Try.ntmps54 [(0, _), (1, _), (2, _)] rfl rfl hg ?_
 refine q_ (g_ (o_ (bxG fun b1 => ?_)))
 refine s_ av_ (s_ av_ (s_ av_ (z_ (n_ (q_ (q_ (g_ (r_ (ldN 0 [vL dsA ds.length dsC, pB p 0] Ty.ag34 Ty.sz34) ?_))))))))
 refine JO_call [p] [Ent.blk p 45 [vI b]] [Ent.blk b1 34 [vL dsA ds.length dsC, pB p 0]] rfl trivial (fun _ => x_call Ty.ca53 rfl) (fun _ h => (h.front 1 _ rfl).keep [true, true] rfl) (own_mem rfl) (fun w hS => f53_okB ds dsA dsC p b w (dsR.on hS (own_mem rfl)) (fun i => (dsN i).on hS (own_mem rfl)) hy_ (hS.give (own_in rfl))) ?_
 rintro _ _ ⟨rfl, rfl⟩
 refine z_ (n_ ?_)
 refine ifd (fun h2w h2 => ?_) (fun h2w h2 => ?_)
 ·refine q_ (g_ (s_ av_ (s_ av_ (s_ av_ (z_ (n_ (rt_ (nr_ ?_))))))))
  first
   | have hd := R27.next_hit (by omega) i1_1 (by assumption)
   | have hd := R27.next_miss (by omega) i1_1
   | have hd := trivial
  refine JX_rets [_, _, _] (Value.tuple #[_, _, _]) Try.results54 (fun w h => ⟨rfl, rfl, rfl, trivial⟩) rfl _ (fun _ h => h.keep [true, false] rfl) ⟨[], [], 15, (R27.dec b), ?_, ?_, ?_, ?_⟩
  ·rfl
  ·rfl
  ·exact c27n5_
  ·exact R27.dec_1000 (by assumption)
 ·refine sk_ (n_ (q_ (g_ (r_ (ldN 1 [vL dsA ds.length dsC, pB p 0] Ty.ag34 Ty.sz34) (s_ mv_ ?_)))))
  refine JO_call [p] [Ent.blk p 45 [vI (R27.dec b)]] [Ent.blk b1 34 [vL dsA ds.length dsC, pB p 0]] rfl trivial (fun _ => x_call Ty.ca38 rfl) (fun _ h => h) (own_mem rfl) (fun w hS => f38_okB ds dsA dsC id p (R27.dec b) w (dsR.on hS (own_mem rfl)) (fun i => (dsN i).on hS (own_mem rfl)) hy_ hy_ (hS.give (own_in rfl))) ?_
  rintro _ _ ⟨rfl, rfl⟩
  have ha3 := R27.ofD_len (by assumption) id
  refine s_ av_ (z_ (n_ (q_ (q_ (g_ (s_ av_ (z_ (n_ (k_ ?_)))))))))
  refine J_loop (X := Nat) (fun (k : Nat) => (k ≤ (R27.ofD ds id).Pairs.length) ∧ (∀ i, i < k → R27.gtB ((R27.ofD ds id).Pairs.getD i default).key q = false)) (fun (k : Nat) => [(2, vS q), (9, vL ((R27.ofD ds id).PairsA) ((R27.ofD ds id).Pairs.length) ((R27.ofD ds id).PairsC)), (10, vI ((k : Nat) : Int))]) (fun (k : Nat) => [Ent.blk p 45 [vI (R27.dec b)]]) (fun (k : Nat) => (R27.ofD ds id).Pairs.length - k) (0 : Nat) ?_ ⟨rfl, rfl, rfl, trivial⟩ (fun _ h => h.keep [true, false] rfl) ?_
  ·try dsimp only
   refine ⟨?_, ?_⟩
   ·first | rfl | omega | (simp_all; done) | (simp_all; omega)
   ·intro i hi; omega
  intro k hI1
  obtain ⟨i1_0, i1_1⟩ := hI1
  try dsimp only at i1_0
  try dsimp only at i1_1
  try dsimp only
  refine q_ (q_ (g_ (s_ mv_ (s_ mv_ (s_ (lnS Try.underlying50) (s_ (x_lss_i rfl rfl) (z_ (n_ ?_))))))))
  refine ifd (fun h4w h4 => ?_) (fun h4w h4 => ?_)
  ·refine sk_ (n_ (q_ (k_ (q_ (g_ (s_ mv_ (s_ mv_ (r_ (x_indexAddr_at (k := k) (off := k * 2) (cells_ro (R27.ofD_ro dsN id)) Try.underlying50 Ty.sz53 rfl rfl lt_ c27n1_ rfl) (s_ (fB0 Ty.fi53_0) (r_ (ldF0 Pair.enc_len (cells_ro (R27.ofD_ro dsN id)) Ty.sc9) (s_ mv_ (s_ (x_gtr_s rfl rfl) (z_ (n_ ?_))))))))))))))
   refine if_ (fun h5 => ?_) (fun h5 => ?_)
   ·have h5w := h5
    have h5 : ((Op.bytesLess ((((R27.ofD ds id).Pairs).getD k default).key) q) || (decide ((((R27.ofD ds id).Pairs).getD k default).key = q))) = false := bnot_true h5
    have ⟨h5, h6⟩ := bor_false h5
    have h6 := of_decide_eq_false h6
    refine q_ ?_
    refine drB [] 13 Ty.mixed ?_
    refine jp_ 0 rfl mv_ (jp_ 1 rfl mv_ (jq_ 2 rfl (x_indexAddr_at (k := k) (off := k * 2) (cells_ro (R27.ofD_ro dsN id)) Try.underlying50 Ty.sz53 rfl rfl lt_ c27n1_ rfl) (jp_ 3 rfl (fB0 Ty.fi53_0) (jq_ 4 rfl (ldF0 Pair.enc_len (cells_ro (R27.ofD_ro dsN id)) Ty.sc9) (jp_ 5 rfl mv_ (jp_ 6 rfl mv_ (jq_ 7 rfl (x_indexAddr_at (k := k) (off := k * 2) (cells_ro (R27.ofD_ro dsN id)) Try.underlying50 Ty.sz53 rfl rfl lt_ c27n1_ rfl) (jp_ 8 rfl (fB Ty.fi53_1) (jq_ 9 rfl (ldF 1 Pair.enc_len (cells_ro (R27.ofD_ro dsN id)) Ty.sc9) ?_)))))))))
    refine jp_ 10 rfl av_ (jp_ 11 rfl av_ (jp_ 12 rfl av_ ?_))
    refine JA_done (by kernel_rfl) gm_ ?_
    refine n_ (rt_ (kq_ (nr_ (rr_ (kq_ (nr_ ?_))))))
    first
     | have hd := R27.next_hit (by omega) i1_1 (by assumption)
     | have hd := R27.next_miss (by omega) i1_1
     | have hd := trivial
    refine JX_rets [_, _, _] (Value.tuple #[_, _, _]) Try.results54 (fun w h => ⟨rfl, rfl, rfl, trivial⟩) rfl _ (fun _ h => h) ⟨(((R27.ofD ds id).Pairs).getD k default).key, (((R27.ofD ds id).Pairs).getD k default).record, 0, (R27.dec b), ?_, ?_, ?_, ?_⟩
    ·rfl
    ·rfl
    ·exact c27n5_
    ·exact R27.dec_1000 (by assumption)
   ·have h5w := h5
    have h5 : ((Op.bytesLess ((((R27.ofD ds id).Pairs).getD k default).key) q) || (decide ((((R27.ofD ds id).Pairs).getD k default).key = q))) = true := bnot_false h5
    simp only [Bool.and_eq_true, Bool.or_eq_true, Bool.and_eq_false_iff, Bool.or_eq_false_iff, Bool.not_eq_true', Bool.not_eq_false', decide_eq_true_eq, decide_eq_false_iff_not] at h5
    refine sk_ (kx_ (n_ (g_ (s_ mv_ (s_ (x_add_n (a := k) (b := 1) rfl rfl (by omega)) (s_ av_ (z_ ?_)))))))
    refine JX_round (k + 1 : Nat) ?_ ?_ ⟨rfl, rfl, rfl, trivial⟩ (fun _ h => h)
    ·try dsimp only
     refine ⟨?_, ?_⟩
     ·first | rfl | omega | (simp_all; done) | (simp_all; omega)
     ·intro i hi; by_cases hik : i = k
      ·subst hik; assumption
      ·exact i1_1 i (by omega)
    ·try dsimp only
     first | omega | (simp; omega) | (simp_all; omega)
  ·refine J_exit (ne_ (re_ (kh_ (n_ (q_ ?_)))))
   refine g_ (s_ av_ (s_ av_ (s_ av_ (z_ (n_ (rt_ ?_))))))
   first
    | have hd := R27.next_hit (by omega) i1_1 (by assumption)
    | have hd := R27.next_miss (by omega) i1_1
    | have hd := trivial
   refine JX_rets [_, _, _] (Value.tuple #[_, _, _]) Try.results54 (fun w h => ⟨rfl, rfl, rfl, trivial⟩) rfl _ (fun _ h => h) ⟨[], [], 6, (R27.dec b), ?_, ?_, ?_, ?_⟩
   ·rfl
   ·rfl
   ·exact c27n5_
   ·exact R27.dec_1000 (by assumption)
set_option maxRecDepth 20000 in
theorem f29_okB (ds : List Data) (dsA : Option Addr) (dsC : Nat) (a : DataSet) (k : Bytes) (base : Bytes) (p : Nat) (b : Int) (w : World) (dsR : RO [p] w dsA (ds.flatMap Data.enc)) (dsN : ∀ i : Nat, RO [p] w (ds.getD i default).PairsA (((ds.getD i default).Pairs).flatMap Pair.enc)) (q0 : ds.length ≤ 1000) (q1 : ∀ i, (ds.getD i default).Pairs.length ≤ 1000) (q2 : b ≤ 1000) (q3 : k.length ≤ 1000) (q4 : base.length ≤ 1000) (hg : Give [p] w [Ent.blk p 45 [vI b]]) : Calls Try.prog 29 #[Value.iface 34 (vG [vL dsA ds.length dsC, pB p 0]), vG (DataSet.enc a), vS k, vS base] w (Gives [p] w fun v L => ∃ e : Int, ∃ b2 : Int, v = vI e ∧ L = [Ent.blk p 45 [vI b2]] ∧ (R27.QE e (R27.dup (R27.ofD ds a.Id).Pairs k base) b b2) ∧ (b2 ≤ 1000)) := by
 refine calls_J [p] 47 Try.func29 rfl Try.ntmps29 [(0, _), (1, _), (2, _), (3, _)] rfl rfl hg ?_
 refine q_ (g_ (o_ (bxG fun b1 => ?_)))
 refine s_ av_ (z_ (n_ (q_ (g_ (s_ mv_ (s_ av_ (z_ (n_ (k_ ?_)))))))))
 refine J_loop (X := Bytes × Nat × Int) (fun (⟨cur, j, bb⟩ : Bytes × Nat × Int) => (j ≤ 1) ∧ (R27.DupAt (R27.ofD ds a.Id).Pairs k base j cur) ∧ (b ≤ 0 → bb = b) ∧ (bb ≤ 1000)) (fun (⟨cur, j, bb⟩ : Bytes × Nat × Int) => [(0, Value.iface 34 (vG [vL dsA ds.length dsC, pB p 0])), (2, vS k), (3, vS base), (5, pB b1 0), (9, vS cur)]) (fun (⟨cur, j, bb⟩ : Bytes × Nat × Int) => [Ent.blk b1 24 (DataSet.enc a), Ent.blk p 45 [vI bb]]) (fun (⟨cur, j, bb⟩ : Bytes × Nat × Int) => 1 - j) ((k, 0, b) : Bytes × Nat × Int) ?_ ⟨rfl, rfl, rfl, rfl, rfl, trivial⟩ (fun _ h => h) ?_
 ·try dsimp only
  refine ⟨?_, ?_, ?_, ?_⟩
  ·first | rfl | omega | (simp_all; done) | (simp_all; omega)
  ·exact .inl ⟨rfl, rfl⟩
  ·exact fun _ => rfl
  ·assumption
 rintro ⟨cur, j, bb⟩ hI1
 obtain ⟨i1_0, i1_1, i1_2, i1_3⟩ := hI1
 try dsimp only at i1_0
 try dsimp only at i1_1
 try dsimp only at i1_2
 try dsimp only at i1_3
 try dsimp only
 refine k_ (q_ (g_ (s_ mv_ (s_ (fA 0 Ty.fi24_0) (r_ (ld_ 0 Ty.sc3) (s_ mv_ ?_))))))
 refine JO_call [p] [Ent.blk p 45 [vI bb]] [Ent.blk b1 24 (DataSet.enc a)] rfl trivial (fun _ => x_invoke rfl Ty.mt54 Ty.ca54 Ty.mtd rfl) (fun _ h => (h.front 1 _ rfl).keep [true, true] rfl) (own_mem rfl) (fun w hS => f33_okB ds dsA dsC a.Id cur p bb w (dsR.on hS (own_mem rfl)) (fun i => (dsN i).on hS (own_mem rfl)) hy_ hy_ hy_ (hS.give (own_in rfl))) ?_
 rintro _ _ ⟨n2, r3, e4, e5, rfl, rfl, hf6, hf7⟩
 refine s_ mv_ (s_ (ex_ 0) (s_ (ex_ 1) (s_ (ex_ 2) (s_ av_ (s_ av_ (s_ av_ (z_ (n_ (q_ (k_ (q_ (g_ (s_ mv_ (s_ (x_eql_i rfl rfl) ?_))))))))))))))
 refine s_ av_ (z_ (n_ ?_))
 refine ifd (fun h8w h8 => ?_) (fun h8w h8 => ?_)
 ·refine q_ (g_ (s_ av_ (z_ (xk_ [0, 2, 3, 5, 9, 10, 8] ?_))))
  refine n_ (rt_ (kq_ (nr_ (kq_ (rr_ (kq_ ?_))))))
  refine JX_rets [_] _ Try.results29 (fun w h => ⟨rfl, trivial⟩) rfl _ (fun _ h => h.keep [true, false] rfl) ⟨0, e5, ?_, ?_, ?_, ?_⟩
  ·rfl
  ·rfl
  ·first | exact R27.dq_nf hf6 i1_1 i1_2 (by assumption) | exact R27.dq_er hf6 i1_2 (by assumption) (by assumption) | exact R27.dq_stop hf6 i1_1 i1_2 (by assumption) (by assumption) | exact R27.dq_two hf6 i1_1 i1_2 (by assumption) c27n0_ (by assumption)
  ·assumption
 ·refine q_ (g_ (s_ mv_ (s_ (x_neq_i rfl rfl) (s_ av_ (z_ (xk_ [0, 2, 3, 5, 9, 10, 12, 26] ?_))))))
  refine n_ ?_
  refine ifd (fun h9w h9 => ?_) (fun h9w h9 => ?_)
  ·refine q_ (g_ (s_ mv_ (s_ av_ (z_ (n_ (rt_ (kq_ (nr_ (kq_ (rr_ (kq_ ?_)))))))))))
   refine JX_rets [_] _ Try.results29 (fun w h => ⟨rfl, trivial⟩) rfl _ (fun _ h => h.keep [true, false] rfl) ⟨e4, e5, ?_, ?_, ?_, ?_⟩
   ·rfl
   ·rfl
   ·first | exact R27.dq_nf hf6 i1_1 i1_2 (by assumption) | exact R27.dq_er hf6 i1_2 (by assumption) (by assumption) | exact R27.dq_stop hf6 i1_1 i1_2 (by assumption) (by assumption) | exact R27.dq_two hf6 i1_1 i1_2 (by assumption) c27n0_ (by assumption)
   ·assumption
  ·refine q_ (g_ (s_ mv_ (s_ mv_ (s_ (x_leq_s rfl rfl) (s_ mv_ ?_)))))
   refine or_ 4 (!(R27.begins n2 k)) (fun g10 => ?_) ?_
   ·have g10r := g10
    have ⟨g10r, h11⟩ := bor_false g10r
    have h11 := of_decide_eq_false h11
    refine sg_ g10 mv_ (sg_ g10 mv_ (c0g g10 (cl_ Ty.ca37) (fun w hS => f37_ok n2 k w) (sg_ g10 (x_not rfl) ?_)))
    exact cr_
   refine s_ av_ (z_ (n_ ?_))
   refine if_ (fun h12 => ?_) (fun h12 => ?_)
   ·have h12w := h12
    simp only [Bool.and_eq_true, Bool.or_eq_true, Bool.and_eq_false_iff, Bool.or_eq_false_iff, Bool.not_eq_true', Bool.not_eq_false', decide_eq_true_eq, decide_eq_false_iff_not] at h12
    refine q_ (g_ (s_ av_ (z_ (n_ (rt_ (kq_ (nr_ (kq_ (rr_ (kq_ ?_))))))))))
    refine JX_rets [_] _ Try.results29 (fun w h => ⟨rfl, trivial⟩) rfl _ (fun _ h => h.keep [true, false] rfl) ⟨0, e5, ?_, ?_, ?_, ?_⟩
    ·rfl
    ·rfl
    ·first | exact R27.dq_nf hf6 i1_1 i1_2 (by assumption) | exact R27.dq_er hf6 i1_2 (by assumption) (by assumption) | exact R27.dq_stop hf6 i1_1 i1_2 (by assumption) (by assumption) | exact R27.dq_two hf6 i1_1 i1_2 (by assumption) c27n0_ (by assumption)
    ·assumption
   ·have h12w := h12
    have ⟨h12, h13⟩ := bor_false h12
    have ⟨h12, h14⟩ := bor_false h12
    have h14 := of_decide_eq_false h14
    have h13 : (R27.begins n2 k) = true := bnot_false h13
    have hi15 := R27.begins_len h13
    refine q_ (g_ (s_ mv_ (s_ mv_ (s_ mv_ (s_ (x_cat_s rfl rfl c27n2_) (s_ (x_neq_s rfl rfl) (s_ av_ (z_ (n_ ?_)))))))))
    refine ifd (fun h16w h16 => ?_) (fun h16w h16 => ?_)
    ·refine q_ (g_ (s_ av_ (z_ (xk_ [0, 2, 3, 5, 9, 10, 8] ?_))))
     refine n_ (rt_ (kq_ (nr_ (kq_ (rr_ (kq_ ?_))))))
     refine JX_rets [_] _ Try.results29 (fun w h => ⟨rfl, trivial⟩) rfl _ (fun _ h => h.keep [true, false] rfl) ⟨19, e5, ?_, ?_, ?_, ?_⟩
     ·rfl
     ·rfl
     ·first | exact R27.dq_nf hf6 i1_1 i1_2 (by assumption) | exact R27.dq_er hf6 i1_2 (by assumption) (by assumption) | exact R27.dq_stop hf6 i1_1 i1_2 (by assumption) (by assumption) | exact R27.dq_two hf6 i1_1 i1_2 (by assumption) c27n0_ (by assumption)
     ·assumption
    ·refine sk_ (kx_ (n_ (g_ (s_ mv_ (s_ av_ (z_ (kx_ ?_)))))))
     refine JX_round ((n2, 1, e5) : Bytes × Nat × Int) ?_ ?_ ⟨rfl, rfl, rfl, rfl, rfl, trivial⟩ (fun _ h => (h.front 1 _ rfl).keep [true, true] rfl)
     ·try dsimp only
      refine ⟨?_, ?_, ?_, ?_⟩
      ·first | rfl | omega | (simp_all; done) | (simp_all; omega)
      ·exact (R27.dq_next hf6 i1_1 (by assumption) c27n0_ (by assumption)).1.1
      ·exact R27.chain i1_2 (R27.dq_next hf6 i1_1 (by assumption) c27n0_ (by assumption)).2
      ·assumption
     ·try dsimp only
      have hj := (R27.dq_next hf6 i1_1 (by assumption) c27n0_ (by assumption)).1.2; omega
set_option maxHeartbeats 1000000 in
set_option maxRecDepth 20000 in
theorem f27_okC (ds : List Data) (dsA : Option Addr) (dsC : Nat) (a : DataSet) (po : Nat) (pt : Nat) (pc : Nat) (px : Nat) (pp : Nat) (pr : Nat) (xs : List Change) (xsA : Option Addr) (xsC : Nat) (xsN : Nat) (ys : List Change) (ysA : Option Addr) (ysC : Nat) (ysN : Nat) (old : Bytes) (th : Bool) (c : Change) (p : Nat) (b : Int) (w : World) (dsR : RO (Lown [Ent.blk po 9 [vS old], Ent.blk pt 4 [vB th], Ent.blk pc 27 (Change.enc c), Ent.blk px 31 [vL xsA xsN xsC], Ent.blk pp 31 [vL ysA ysN ysC], Ent.blk pr 70 [Value.iface 34 (vG [vL dsA ds.length dsC, pB p 0])], Ent.blk p 45 [vI b], Ent.row (.slice xsA xsN xsC) 27 5 xsN (xs.flatMap Change.enc), Ent.row (.slice ysA ysN ysC) 27 5 ysN (ys.flatMap Change.enc)]) w dsA (ds.flatMap Data.enc)) (dsN : ∀ i : Nat, RO (Lown [Ent.blk po 9 [vS old], Ent.blk pt 4 [vB th], Ent.blk pc 27 (Change.enc c), Ent.blk px 31 [vL xsA xsN xsC], Ent.blk pp 31 [vL ysA ysN ysC], Ent.blk pr 70 [Value.iface 34 (vG [vL dsA ds.length dsC, pB p 0])], Ent.blk p 45 [vI b], Ent.row (.slice xsA xsN xsC) 27 5 xsN (xs.flatMap Change.enc), Ent.row (.slice ysA ysN ysC) 27 5 ysN (ys.flatMap Change.enc)]) w (ds.getD i default).PairsA (((ds.getD i default).Pairs).flatMap Pair.enc)) (xsQ : xsN = xs.length) (ysQ : ysN = ys.length) (q0 : ds.length ≤ 1000) (q1 : ∀ i, (ds.getD i default).Pairs.length ≤ 1000) (q2 : c.Key.length ≤ 1000) (q3 : c.Record.length ≤ 1000) (q4 : old.length ≤ 1000) (q5 : xs.length ≤ 1000) (q6 : ys.length ≤ 1000) (q7 : b ≤ 1000) (hg : Give (Lown [Ent.blk po 9 [vS old], Ent.blk pt 4 [vB th], Ent.blk pc 27 (Change.enc c), Ent.blk px 31 [vL xsA xsN xsC], Ent.blk pp 31 [vL ysA ysN ysC], Ent.blk pr 70 [Value.iface 34 (vG [vL dsA ds.length dsC, pB p 0])], Ent.blk p 45 [vI b], Ent.row (.slice xsA xsN xsC) 27 5 xsN (xs.flatMap Change.enc), Ent.row (.slice ysA ysN ysC) 27 5 ysN (ys.flatMap Change.enc)]) w [Ent.blk po 9 [vS old], Ent.blk pt 4 [vB th], Ent.blk pc 27 (Change.enc c), Ent.blk px 31 [vL xsA xsN xsC], Ent.blk pp 31 [vL ysA ysN ysC], Ent.blk pr 70 [Value.iface 34 (vG [vL dsA ds.length dsC, pB p 0])], Ent.blk p 45 [vI b], Ent.row (.slice xsA xsN xsC) 27 5 xsN (xs.flatMap Change.enc), Ent.row (.slice ysA ysN ysC) 27 5 ysN (ys.flatMap Change.enc)]) : Calls Try.prog 27 #[vG (DataSet.enc a), pB po 0, pB pt 0, pB pc 0, pB px 0, pB pp 0, pB pr 0] w (Gives (Lown [Ent.blk po 9 [vS old], Ent.blk pt 4 [vB th], Ent.blk pc 27 (Change.enc c), Ent.blk px 31 [vL xsA xsN xsC], Ent.blk pp 31 [vL ysA ysN ysC], Ent.blk pr 70 [Value.iface 34 (vG [vL dsA ds.length dsC, pB p 0])], Ent.blk p 45 [vI b], Ent.row (.slice xsA xsN xsC) 27 5 xsN (xs.flatMap Change.enc), Ent.row (.slice ysA ysN ysC) 27 5 ysN (ys.flatMap Change.enc)]) w fun v L => ∃ A2 : Option Addr, ∃ c2 : Nat, ∃ A3 : Option Addr, ∃ c3 : Nat, ∃ zs : List Change, ∃ us : List Change, ∃ e : Int, ∃ b2 : Int, v = vI e ∧ L = [Ent.blk po 9 [vS old], Ent.blk pt 4 [vB th], Ent.blk pc 27 (Change.enc c), Ent.blk px 31 [vL A2 zs.length c2], Ent.blk pp 31 [vL A3 us.length c3], Ent.blk pr 70 [Value.iface 34 (vG [vL dsA ds.length dsC, pB p 0])], Ent.blk p 45 [vI b2], Ent.row (.slice A2 zs.length c2) 27 5 zs.length (zs.flatMap Change.enc), Ent.row (.slice A3 us.length c3) 27 5 us.length (us.flatMap Change.enc)] ∧ (R27.QS (zs, us, e) (R27.stepA ds c old th a (xs, ys, 0)) b b2) ∧ (zs.length ≤ xs.length + 1) ∧ (us.length ≤ ys.length + 1) ∧ (b2 ≤ 1000)) := by
 subst xsQ
 subst ysQ
 have hl1 := R27.sideV_len a old th
 have hl2 := R27.sideV_len a c.Record (decide (c.Kind ≠ 1))
 refine calls_J (Lown [Ent.blk po 9 [vS old], Ent.blk pt 4 [vB th], Ent.blk pc 27 (Change.enc c), Ent.blk px 31 [vL xsA xs.length xsC], Ent.blk pp 31 [vL ysA ys.length ysC], Ent.blk pr 70 [Value.iface 34 (vG [vL dsA ds.length dsC, pB p 0])], Ent.blk p 45 [vI b], Ent.row (.slice xsA xs.length xsC) 27 5 xs.length (xs.flatMap Change.enc), Ent.row (.slice ysA ys.length ysC) 27 5 ys.length (ys.flatMap Change.enc)]) 64 Try.func27 rfl Try.ntmps27 [(0, _), (1, _), (2, _), (3, _), (4, _), (5, _), (6, _)] rfl rfl hg ?_
 refine q_ (g_ (o_ (bxG fun b1 => ?_)))
 refine s_ av_ (z_ (n_ (q_ ?_)))
 refine drB [13, 14] 15 Ty.mixed ?_
 refine jq_ 0 rfl (ldN 0 (DataSet.enc a) Ty.ag24 Ty.sz24) (jq_ 1 rfl (ld_ 1 Ty.sc9) (jq_ 2 rfl (ld_ 2 Ty.sc4) (jq_ 4 rfl (ldN 0 (DataSet.enc a) Ty.ag24 Ty.sz24) (jp_ 5 rfl (fA 3 Ty.fi27_3) (jq_ 6 rfl (ld_ 3 Ty.sc9) (jp_ 7 rfl (fA 0 Ty.fi27_0) (jq_ 8 rfl (ld_ 3 Ty.sc3) (jp_ 9 rfl (x_neq_i rfl rfl) ?_))))))))
 refine JA_finX (X := Nat × Nat) (fun ⟨b4, b6⟩ => [(3, pB pc 0), (4, pB px 0), (5, pB pp 0), (6, pB pr 0), (7, pB b1 0), (8, vI 0), (9, pB b4 0), (10, pB b6 0)]) (fun ⟨b4, b6⟩ => [Ent.blk b6 78 [vS ((R27.sideV a c.Record (decide (c.Kind ≠ 1))).key), vB ((R27.sideV a c.Record (decide (c.Kind ≠ 1))).has)], Ent.blk b4 78 [vS ((R27.sideV a old th).key), vB ((R27.sideV a old th).has)], Ent.blk b1 24 (DataSet.enc a), Ent.blk po 9 [vS old], Ent.blk pt 4 [vB th], Ent.blk pc 27 (Change.enc c), Ent.blk px 31 [vL xsA xs.length xsC], Ent.blk pp 31 [vL ysA ys.length ysC], Ent.blk pr 70 [Value.iface 34 (vG [vL dsA ds.length dsC, pB p 0])], Ent.blk p 45 [vI b], Ent.row (.slice xsA xs.length xsC) 27 5 xs.length (xs.flatMap Change.enc), Ent.row (.slice ysA ys.length ysC) 27 5 ys.length (ys.flatMap Change.enc)]) ?_ (fun key2 => ?_)
 ·rintro ⟨b4, b6⟩
  show JX _ _ _ _ _ [(3, pB pc 0), (4, pB px 0), (5, pB pp 0), (6, pB pr 0), (7, pB b1 0), (8, vI 0), (9, pB b4 0), (10, pB b6 0)] [Ent.blk b6 78 [vS ((R27.sideV a c.Record (decide (c.Kind ≠ 1))).key), vB ((R27.sideV a c.Record (decide (c.Kind ≠ 1))).has)], Ent.blk b4 78 [vS ((R27.sideV a old th).key), vB ((R27.sideV a old th).has)], Ent.blk b1 24 (DataSet.enc a), Ent.blk po 9 [vS old], Ent.blk pt 4 [vB th], Ent.blk pc 27 (Change.enc c), Ent.blk px 31 [vL xsA xs.length xsC], Ent.blk pp 31 [vL ysA ys.length ysC], Ent.blk pr 70 [Value.iface 34 (vG [vL dsA ds.length dsC, pB p 0])], Ent.blk p 45 [vI b], Ent.row (.slice xsA xs.length xsC) 27 5 xs.length (xs.flatMap Change.enc), Ent.row (.slice ysA ys.length ysC) 27 5 ys.length (ys.flatMap Change.enc)]
  refine n_ (q_ (q_ (g_ (r_ (ldN 1 [vS ((R27.sideV a old th).key), vB ((R27.sideV a old th).has)] Ty.ag78 Ty.sz78) (r_ (ldN 0 [vS ((R27.sideV a c.Record (decide (c.Kind ≠ 1))).key), vB ((R27.sideV a c.Record (decide (c.Kind ≠ 1))).has)] Ty.ag78 Ty.sz78) (s_ (x_eql_agg rfl rfl Ty.eg78 (Ty.eq78 9998 (R27.sideV a old th) (R27.sideV a c.Record (decide (c.Kind ≠ 1))))) (z_ (n_ ?_))))))))
  refine ifd (fun h3w h3 => ?_) (fun h3w h3 => ?_)
  ·refine q_ (g_ (s_ av_ (z_ (n_ (rt_ (nr_ ?_))))))
   refine JX_rets [_] _ Try.results27 (fun w h => ⟨rfl, trivial⟩) rfl _ (fun _ h => h.keep [false, false, false, true, true, true, true, true, true, true, true, true] rfl) ⟨xsA, xsC, ysA, ysC, xs, ys, 0, b, ?_, ?_, ?_, ?_, ?_, ?_⟩
   ·rfl
   ·rfl
   ·first
     | exact R27.qs_same (R27.st_eq (by assumption))
     | exact R27.qs_same (R27.st_tf (by assumption) (by assumption) (by assumption))
     | exact R27.qs_same (R27.st_ff (by assumption) (by assumption) (by assumption))
     | exact R27.qs_same (R27.st_ttn (by assumption) (by assumption) (by assumption) (by assumption))
     | exact R27.qs_same (R27.st_ftn (by assumption) (by assumption) (by assumption) (by assumption))
     | exact R27.qs_dup no_such_condition (R27.st_ttu (by assumption) (by assumption) (by assumption) (by assumption)) rfl
     | exact R27.qs_dup no_such_condition (R27.st_ftu (by assumption) (by assumption) (by assumption) (by assumption)) rfl
   ·(try simp only [List.length_append, List.length_cons, List.length_nil]); omega
   ·(try simp only [List.length_append, List.length_cons, List.length_nil]); omega
   ·assumption
  ·refine sk_ (n_ (q_ (q_ (g_ (s_ (fA 1 Ty.fi78_1) (r_ (ld_ 1 Ty.sc4) (z_ (n_ ?_))))))))
   refine if_ (fun h4 => ?_) (fun h4 => ?_)
   ·have h4w := h4
    refine g_ (r_ (ld_ 6 Ty.sc31) (s_ (fA 0 Ty.fi24_0) (r_ (ld_ 2 Ty.sc3) (s_ (fA 0 Ty.fi78_0) (r_ (ld_ 1 Ty.sc9) (s_ (fA 2 Ty.fi27_2) (r_ (ld_ 5 Ty.sc9) (s_ (x_cat_s rfl rfl c27n2_) (js_ (vG [vI 1, vI a.Id, vS (((R27.sideV a old th).key) ++ c.Key), vS [], vS []]) (x_build (by kernel_rfl)) ?_)))))))))
    refine o_ (O_buildSlice (cs := [vI 1, vI a.Id, vS (((R27.sideV a old th).key) ++ c.Key), vS [], vS []]) Try.underlying31 Ty.sz27 Ty.ze27 (by decide) (by decide) (by kernel_rfl) fun b5 => ?_)
    refine o_ (O_append_f 11 Change.enc 5 xs [(Change.mk 1 a.Id (((R27.sideV a old th).key) ++ c.Key) [] [])] Try.underlying31 Ty.sz27 Ty.by27 Ty.ze27 rfl (by decide) rfl rfl rfl rfl Change.enc_len Change.enc_one (cells_blk 0 (off := 0) (m := 5) rfl rfl) lt_ lt_ fun A6 c7 => ?_)
    refine o_ (st1 7 Ty.sz31 ?_)
    refine z_ (xk_ [3, 5, 6, 7, 8, 10] ?_)
    refine n_ (q_ (q_ (g_ (s_ (fA 1 Ty.fi78_1) (r_ (ld_ 1 Ty.sc4) (s_ (x_not rfl) (z_ (n_ ?_))))))))
    refine if_ (fun h8 => ?_) (fun h8 => ?_)
    ·have h8w := h8
     have h8 : ((R27.sideV a c.Record (decide (c.Kind ≠ 1))).has) = false := bnot_true h8
     refine q_ (g_ (s_ av_ (z_ (n_ (rt_ (nr_ ?_))))))
     refine JX_rets [_] _ Try.results27 (fun w h => ⟨rfl, trivial⟩) rfl _ (fun _ h => h.keep [false, false, false, false, true, true, true, true, true, true, true, true, true] rfl) ⟨A6, c7, ysA, ysC, xs ++ [(Change.mk 1 a.Id (((R27.sideV a old th).key) ++ c.Key) [] [])], ys, 0, b, ?_, ?_, ?_, ?_, ?_, ?_⟩
     ·rfl
     ·rfl
     ·first
       | exact R27.qs_same (R27.st_eq (by assumption))
       | exact R27.qs_same (R27.st_tf (by assumption) (by assumption) (by assumption))
       | exact R27.qs_same (R27.st_ff (by assumption) (by assumption) (by assumption))
       | exact R27.qs_same (R27.st_ttn (by assumption) (by assumption) (by assumption) (by assumption))
       | exact R27.qs_same (R27.st_ftn (by assumption) (by assumption) (by assumption) (by assumption))
       | exact R27.qs_dup no_such_condition (R27.st_ttu (by assumption) (by assumption) (by assumption) (by assumption)) rfl
       | exact R27.qs_dup no_such_condition (R27.st_ftu (by assumption) (by assumption) (by assumption) (by assumption)) rfl
     ·(try simp only [List.length_append, List.length_cons, List.length_nil]); omega
     ·(try simp only [List.length_append, List.length_cons, List.length_nil]); omega
     ·assumption
    ·have h8w := h8
     have h8 : ((R27.sideV a c.Record (decide (c.Kind ≠ 1))).has) = true := bnot_false h8
     refine sk_ (n_ (q_ (g_ (s_ (fA 0 Ty.fi78_0) (r_ (ld_ 1 Ty.sc9) (s_ (fA 2 Ty.fi27_2) (r_ (ld_ 6 Ty.sc9) (s_ (x_cat_s rfl rfl c27n2_) (s_ av_ (z_ (n_ (q_ (g_ (r_ (ld_ 8 Ty.sc31) (s_ (fA 0 Ty.fi24_0) ?_)))))))))))))))
     refine r_ (ld_ 3 Ty.sc3) (s_ mv_ (s_ mv_ (js_ (vG [vI 0, vI a.Id, vS (((R27.sideV a c.Record (decide (c.Kind ≠ 1))).key) ++ c.Key), vS (((R27.sideV a c.Record (decide (c.Kind ≠ 1))).key) ++ c.Key), vS []]) (x_build (by kernel_rfl)) (o_ (O_buildSlice (cs := [vI 0, vI a.Id, vS (((R27.sideV a c.Record (decide (c.Kind ≠ 1))).key) ++ c.Key), vS (((R27.sideV a c.Record (decide (c.Kind ≠ 1))).key) ++ c.Key), vS []]) Try.underlying31 Ty.sz27 Ty.ze27 (by decide) (by decide) (by kernel_rfl) fun b9 => ?_)))))
     refine o_ (O_append_f 13 Change.enc 5 ys [(Change.mk 0 a.Id (((R27.sideV a c.Record (decide (c.Kind ≠ 1))).key) ++ c.Key) (((R27.sideV a c.Record (decide (c.Kind ≠ 1))).key) ++ c.Key) [])] Try.underlying31 Ty.sz27 Ty.by27 Ty.ze27 rfl (by decide) rfl rfl rfl rfl Change.enc_len Change.enc_one (cells_blk 0 (off := 0) (m := 5) rfl rfl) lt_ lt_ fun A10 c11 => ?_)
     refine o_ (st1 9 Ty.sz31 ?_)
     refine z_ (xk_ [3, 6, 7, 8, 10] ?_)
     refine n_ (q_ (q_ (g_ (s_ (fA 14 Ty.fi24_14) (r_ (ld_ 4 Ty.sc4) (z_ (n_ ?_)))))))
     refine if_ (fun h12 => ?_) (fun h12 => ?_)
     ·have h12w := h12
      refine q_ (g_ (r_ (ld_ 10 Ty.sc70) (r_ (ldN 4 (DataSet.enc a) Ty.ag24 Ty.sz24) (s_ (fA 0 Ty.fi78_0) (r_ (ld_ 2 Ty.sc9) (s_ (fA 2 Ty.fi27_2) (r_ (ld_ 7 Ty.sc9) ?_)))))))
      refine JO_call [p] [Ent.blk p 45 [vI b]] [Ent.blk b9 27 [vI 0, vI a.Id, vS (((R27.sideV a c.Record (decide (c.Kind ≠ 1))).key) ++ c.Key), vS (((R27.sideV a c.Record (decide (c.Kind ≠ 1))).key) ++ c.Key), vS []], Ent.blk b5 27 [vI 1, vI a.Id, vS (((R27.sideV a old th).key) ++ c.Key), vS [], vS []], Ent.blk b6 78 [vS ((R27.sideV a c.Record (decide (c.Kind ≠ 1))).key), vB ((R27.sideV a c.Record (decide (c.Kind ≠ 1))).has)], Ent.blk b4 78 [vS ((R27.sideV a old th).key), vB ((R27.sideV a old th).has)], Ent.blk b1 24 (DataSet.enc a), Ent.blk po 9 [vS old], Ent.blk pt 4 [vB th], Ent.blk pc 27 (Change.enc c), Ent.blk px 31 [vL A6 ((xs ++ [(Change.mk 1 a.Id (((R27.sideV a old th).key) ++ c.Key) [] [])]).length) c7], Ent.blk pp 31 [vL A10 ((ys ++ [(Change.mk 0 a.Id (((R27.sideV a c.Record (decide (c.Kind ≠ 1))).key) ++ c.Key) (((R27.sideV a c.Record (decide (c.Kind ≠ 1))).key) ++ c.Key) [])]).length) c11], Ent.blk pr 70 [Value.iface 34 (vG [vL dsA ds.length dsC, pB p 0])], Ent.row (.slice A6 (xs ++ [(Change.mk 1 a.Id (((R27.sideV a old th).key) ++ c.Key) [] [])]).length c7) 27 5 (xs ++ [(Change.mk 1 a.Id (((R27.sideV a old th).key) ++ c.Key) [] [])]).length ((xs ++ [(Change.mk 1 a.Id (((R27.sideV a old th).key) ++ c.Key) [] [])]).flatMap Change.enc), Ent.row (.slice A10 (ys ++ [(Change.mk 0 a.Id (((R27.sideV a c.Record (decide (c.Kind ≠ 1))).key) ++ c.Key) (((R27.sideV a c.Record (decide (c.Kind ≠ 1))).key) ++ c.Key) [])]).length c11) 27 5 (ys ++ [(Change.mk 0 a.Id (((R27.sideV a c.Record (decide (c.Kind ≠ 1))).key) ++ c.Key) (((R27.sideV a c.Record (decide (c.Kind ≠ 1))).key) ++ c.Key) [])]).length ((ys ++ [(Change.mk 0 a.Id (((R27.sideV a c.Record (decide (c.Kind ≠ 1))).key) ++ c.Key) (((R27.sideV a c.Record (decide (c.Kind ≠ 1))).key) ++ c.Key) [])]).flatMap Change.enc)] rfl trivial (fun _ => x_call Ty.ca29 rfl) (fun _ h => ((((((((((((((h.front 13 _ rfl).front 13 _ rfl).front 12 _ rfl).front 12 _ rfl).front 12 _ rfl).front 12 _ rfl).front 12 _ rfl).front 12 _ rfl).front 12 _ rfl).front 12 _ rfl).front 12 _ rfl).front 12 _ rfl).front 12 _ rfl).front 13 _ rfl).keep [true, true, true, true, true, true, true, true, true, true, true, true, true, true] rfl) (own_mem rfl) (fun w hS => f29_okB ds dsA dsC a ((R27.sideV a c.Record (decide (c.Kind ≠ 1))).key) c.Key p b w (dsR.on hS (own_mem rfl)) (fun i => (dsN i).on hS (own_mem rfl)) hy_ hy_ hy_ hy_ hy_ (hS.give (own_in rfl))) ?_
      rintro _ _ ⟨e13, e14, rfl, rfl, hf15, hf16⟩
      refine s_ av_ (z_ (n_ (rt_ (nr_ ?_))))
      refine JX_rets [_] _ Try.results27 (fun w h => ⟨rfl, trivial⟩) rfl [Ent.blk po 9 [vS old], Ent.blk pt 4 [vB th], Ent.blk pc 27 (Change.enc c), Ent.blk px 31 [vL A6 ((xs ++ [(Change.mk 1 a.Id (((R27.sideV a old th).key) ++ c.Key) [] [])]).length) c7], Ent.blk pp 31 [vL A10 ((ys ++ [(Change.mk 0 a.Id (((R27.sideV a c.Record (decide (c.Kind ≠ 1))).key) ++ c.Key) (((R27.sideV a c.Record (decide (c.Kind ≠ 1))).key) ++ c.Key) [])]).length) c11], Ent.blk pr 70 [Value.iface 34 (vG [vL dsA ds.length dsC, pB p 0])], Ent.blk p 45 [vI e14], Ent.row (.slice A6 (xs ++ [(Change.mk 1 a.Id (((R27.sideV a old th).key) ++ c.Key) [] [])]).length c7) 27 5 (xs ++ [(Change.mk 1 a.Id (((R27.sideV a old th).key) ++ c.Key) [] [])]).length ((xs ++ [(Change.mk 1 a.Id (((R27.sideV a old th).key) ++ c.Key) [] [])]).flatMap Change.enc), Ent.row (.slice A10 (ys ++ [(Change.mk 0 a.Id (((R27.sideV a c.Record (decide (c.Kind ≠ 1))).key) ++ c.Key) (((R27.sideV a c.Record (decide (c.Kind ≠ 1))).key) ++ c.Key) [])]).length c11) 27 5 (ys ++ [(Change.mk 0 a.Id (((R27.sideV a c.Record (decide (c.Kind ≠ 1))).key) ++ c.Key) (((R27.sideV a c.Record (decide (c.Kind ≠ 1))).key) ++ c.Key) [])]).length ((ys ++ [(Change.mk 0 a.Id (((R27.sideV a c.Record (decide (c.Kind ≠ 1))).key) ++ c.Key) (((R27.sideV a c.Record (decide (c.Kind ≠ 1))).key) ++ c.Key) [])]).flatMap Change.enc)] (fun _ h => (((((((((h.front 13 _ rfl).front 13 _ rfl).front 2 _ rfl).front 13 _ rfl).front 13 _ rfl).front 13 _ rfl).front 13 _ rfl).front 13 _ rfl).front 13 _ rfl).keep [true, true, true, true, true, true, true, true, true, false, false, false, false, false] rfl) ⟨A6, c7, A10, c11, xs ++ [(Change.mk 1 a.Id (((R27.sideV a old th).key) ++ c.Key) [] [])], ys ++ [(Change.mk 0 a.Id (((R27.sideV a c.Record (decide (c.Kind ≠ 1))).key) ++ c.Key) (((R27.sideV a c.Record (decide (c.Kind ≠ 1))).key) ++ c.Key) [])], e13, e14, ?_, ?_, ?_, ?_, ?_, ?_⟩
      ·rfl
      ·rfl
      ·first
        | exact R27.qs_same (R27.st_eq (by assumption))
        | exact R27.qs_same (R27.st_tf (by assumption) (by assumption) (by assumption))
        | exact R27.qs_same (R27.st_ff (by assumption) (by assumption) (by assumption))
        | exact R27.qs_same (R27.st_ttn (by assumption) (by assumption) (by assumption) (by assumption))
        | exact R27.qs_same (R27.st_ftn (by assumption) (by assumption) (by assumption) (by assumption))
        | exact R27.qs_dup hf15 (R27.st_ttu (by assumption) (by assumption) (by assumption) (by assumption)) rfl
        | exact R27.qs_dup hf15 (R27.st_ftu (by assumption) (by assumption) (by assumption) (by assumption)) rfl
      ·(try simp only [List.length_append, List.length_cons, List.length_nil]); omega
      ·(try simp only [List.length_append, List.length_cons, List.length_nil]); omega
      ·assumption
     ·have h12w := h12
      refine sk_ (n_ (q_ (g_ (s_ av_ (z_ (n_ (rt_ ?_)))))))
      refine JX_rets [_] _ Try.results27 (fun w h => ⟨rfl, trivial⟩) rfl _ (fun _ h => h.keep [false, false, false, false, false, true, true, true, true, true, true, true, true, true] rfl) ⟨A6, c7, A10, c11, xs ++ [(Change.mk 1 a.Id (((R27.sideV a old th).key) ++ c.Key) [] [])], ys ++ [(Change.mk 0 a.Id (((R27.sideV a c.Record (decide (c.Kind ≠ 1))).key) ++ c.Key) (((R27.sideV a c.Record (decide (c.Kind ≠ 1))).key) ++ c.Key) [])], 0, b, ?_, ?_, ?_, ?_, ?_, ?_⟩
      ·rfl
      ·rfl
      ·first
        | exact R27.qs_same (R27.st_eq (by assumption))
        | exact R27.qs_same (R27.st_tf (by assumption) (by assumption) (by assumption))
        | exact R27.qs_same (R27.st_ff (by assumption) (by assumption) (by assumption))
        | exact R27.qs_same (R27.st_ttn (by assumption) (by assumption) (by assumption) (by assumption))
        | exact R27.qs_same (R27.st_ftn (by assumption) (by assumption) (by assumption) (by assumption))
        | exact R27.qs_dup no_such_condition (R27.st_ttu (by assumption) (by assumption) (by assumption) (by assumption)) rfl
        | exact R27.qs_dup no_such_condition (R27.st_ftu (by assumption) (by assumption) (by assumption) (by assumption)) rfl
      ·(try simp only [List.length_append, List.length_cons, List.length_nil]); omega
      ·(try simp only [List.length_append, List.length_cons, List.length_nil]); omega
      ·assumption
   ·have h4w := h4
    refine sk_ (n_ (q_ (q_ (g_ (s_ (fA 1 Ty.fi78_1) (r_ (ld_ 0 Ty.sc4) (s_ (x_not rfl) (z_ (n_ ?_)))))))))
    refine if_ (fun h17 => ?_) (fun h17 => ?_)
    ·have h17w := h17
     have h17 : ((R27.sideV a c.Record (decide (c.Kind ≠ 1))).has) = false := bnot_true h17
     refine q_ (g_ (s_ av_ (z_ (n_ (rt_ (nr_ ?_))))))
     refine JX_rets [_] _ Try.results27 (fun w h => ⟨rfl, trivial⟩) rfl _ (fun _ h => h.keep [false, false, false, true, true, true, true, true, true, true, true, true] rfl) ⟨xsA, xsC, ysA, ysC, xs, ys, 0, b, ?_, ?_, ?_, ?_, ?_, ?_⟩
     ·rfl
     ·rfl
     ·first
       | exact R27.qs_same (R27.st_eq (by assumption))
       | exact R27.qs_same (R27.st_tf (by assumption) (by assumption) (by assumption))
       | exact R27.qs_same (R27.st_ff (by assumption) (by assumption) (by assumption))
       | exact R27.qs_same (R27.st_ttn (by assumption) (by assumption) (by assumption) (by assumption))
       | exact R27.qs_same (R27.st_ftn (by assumption) (by assumption) (by assumption) (by assumption))
       | exact R27.qs_dup no_such_condition (R27.st_ttu (by assumption) (by assumption) (by assumption) (by assumption)) rfl
       | exact R27.qs_dup no_such_condition (R27.st_ftu (by assumption) (by assumption) (by assumption) (by assumption)) rfl
     ·(try simp only [List.length_append, List.length_cons, List.length_nil]); omega
     ·(try simp only [List.length_append, List.length_cons, List.length_nil]); omega
     ·assumption
    ·have h17w := h17
     have h17 : ((R27.sideV a c.Record (decide (c.Kind ≠ 1))).has) = true := bnot_false h17
     refine sk_ (n_ (q_ (g_ (s_ (fA 0 Ty.fi78_0) (r_ (ld_ 0 Ty.sc9) (s_ (fA 2 Ty.fi27_2) (r_ (ld_ 5 Ty.sc9) (s_ (x_cat_s rfl rfl c27n2_) (s_ av_ (z_ (xk_ [3, 5, 6, 7, 8, 10, 11] ?_)))))))))))
     refine n_ (q_ (g_ (r_ (ld_ 7 Ty.sc31) (s_ (fA 0 Ty.fi24_0) (r_ (ld_ 2 Ty.sc3) (s_ mv_ (s_ mv_ (js_ (vG [vI 0, vI a.Id, vS (((R27.sideV a c.Record (decide (c.Kind ≠ 1))).key) ++ c.Key), vS (((R27.sideV a c.Record (decide (c.Kind ≠ 1))).key) ++ c.Key), vS []]) (x_build (by kernel_rfl)) (o_ (O_buildSlice (cs := [vI 0, vI a.Id, vS (((R27.sideV a c.Record (decide (c.Kind ≠ 1))).key) ++ c.Key), vS (((R27.sideV a c.Record (decide (c.Kind ≠ 1))).key) ++ c.Key), vS []]) Try.underlying31 Ty.sz27 Ty.ze27 (by decide) (by decide) (by kernel_rfl) fun b18 => ?_))))))))))
     refine o_ (O_append_f 12 Change.enc 5 ys [(Change.mk 0 a.Id (((R27.sideV a c.Record (decide (c.Kind ≠ 1))).key) ++ c.Key) (((R27.sideV a c.Record (decide (c.Kind ≠ 1))).key) ++ c.Key) [])] Try.underlying31 Ty.sz27 Ty.by27 Ty.ze27 rfl (by decide) rfl rfl rfl rfl Change.enc_len Change.enc_one (cells_blk 0 (off := 0) (m := 5) rfl rfl) lt_ lt_ fun A19 c20 => ?_)
     refine o_ (st1 8 Ty.sz31 ?_)
     refine z_ (n_ (q_ (q_ (g_ (s_ (fA 14 Ty.fi24_14) (r_ (ld_ 3 Ty.sc4) (z_ (n_ ?_))))))))
     refine if_ (fun h21 => ?_) (fun h21 => ?_)
     ·have h21w := h21
      refine q_ (g_ (r_ (ld_ 9 Ty.sc70) (r_ (ldN 3 (DataSet.enc a) Ty.ag24 Ty.sz24) (s_ (fA 0 Ty.fi78_0) (r_ (ld_ 1 Ty.sc9) (s_ (fA 2 Ty.fi27_2) (r_ (ld_ 6 Ty.sc9) ?_)))))))
      refine JO_call [p] [Ent.blk p 45 [vI b]] [Ent.blk b18 27 [vI 0, vI a.Id, vS (((R27.sideV a c.Record (decide (c.Kind ≠ 1))).key) ++ c.Key), vS (((R27.sideV a c.Record (decide (c.Kind ≠ 1))).key) ++ c.Key), vS []], Ent.blk b6 78 [vS ((R27.sideV a c.Record (decide (c.Kind ≠ 1))).key), vB ((R27.sideV a c.Record (decide (c.Kind ≠ 1))).has)], Ent.blk b4 78 [vS ((R27.sideV a old th).key), vB ((R27.sideV a old th).has)], Ent.blk b1 24 (DataSet.enc a), Ent.blk po 9 [vS old], Ent.blk pt 4 [vB th], Ent.blk pc 27 (Change.enc c), Ent.blk px 31 [vL xsA xs.length xsC], Ent.blk pp 31 [vL A19 ((ys ++ [(Change.mk 0 a.Id (((R27.sideV a c.Record (decide (c.Kind ≠ 1))).key) ++ c.Key) (((R27.sideV a c.Record (decide (c.Kind ≠ 1))).key) ++ c.Key) [])]).length) c20], Ent.blk pr 70 [Value.iface 34 (vG [vL dsA ds.length dsC, pB p 0])], Ent.row (.slice xsA xs.length xsC) 27 5 xs.length (xs.flatMap Change.enc), Ent.row (.slice A19 (ys ++ [(Change.mk 0 a.Id (((R27.sideV a c.Record (decide (c.Kind ≠ 1))).key) ++ c.Key) (((R27.sideV a c.Record (decide (c.Kind ≠ 1))).key) ++ c.Key) [])]).length c20) 27 5 (ys ++ [(Change.mk 0 a.Id (((R27.sideV a c.Record (decide (c.Kind ≠ 1))).key) ++ c.Key) (((R27.sideV a c.Record (decide (c.Kind ≠ 1))).key) ++ c.Key) [])]).length ((ys ++ [(Change.mk 0 a.Id (((R27.sideV a c.Record (decide (c.Kind ≠ 1))).key) ++ c.Key) (((R27.sideV a c.Record (decide (c.Kind ≠ 1))).key) ++ c.Key) [])]).flatMap Change.enc)] rfl trivial (fun _ => x_call Ty.ca29 rfl) (fun _ h => (((((((((((((h.front 12 _ rfl).front 12 _ rfl).front 11 _ rfl).front 11 _ rfl).front 11 _ rfl).front 11 _ rfl).front 11 _ rfl).front 11 _ rfl).front 11 _ rfl).front 11 _ rfl).front 11 _ rfl).front 11 _ rfl).front 12 _ rfl).keep [true, true, true, true, true, true, true, true, true, true, true, true, true] rfl) (own_mem rfl) (fun w hS => f29_okB ds dsA dsC a ((R27.sideV a c.Record (decide (c.Kind ≠ 1))).key) c.Key p b w (dsR.on hS (own_mem rfl)) (fun i => (dsN i).on hS (own_mem rfl)) hy_ hy_ hy_ hy_ hy_ (hS.give (own_in rfl))) ?_
      rintro _ _ ⟨e22, e23, rfl, rfl, hf24, hf25⟩
      refine s_ av_ (z_ (xk_ [8] ?_))
      refine n_ (rt_ (nr_ ?_))
      refine JX_rets [_] _ Try.results27 (fun w h => ⟨rfl, trivial⟩) rfl [Ent.blk po 9 [vS old], Ent.blk pt 4 [vB th], Ent.blk pc 27 (Change.enc c), Ent.blk px 31 [vL xsA xs.length xsC], Ent.blk pp 31 [vL A19 ((ys ++ [(Change.mk 0 a.Id (((R27.sideV a c.Record (decide (c.Kind ≠ 1))).key) ++ c.Key) (((R27.sideV a c.Record (decide (c.Kind ≠ 1))).key) ++ c.Key) [])]).length) c20], Ent.blk pr 70 [Value.iface 34 (vG [vL dsA ds.length dsC, pB p 0])], Ent.blk p 45 [vI e23], Ent.row (.slice xsA xs.length xsC) 27 5 xs.length (xs.flatMap Change.enc), Ent.row (.slice A19 (ys ++ [(Change.mk 0 a.Id (((R27.sideV a c.Record (decide (c.Kind ≠ 1))).key) ++ c.Key) (((R27.sideV a c.Record (decide (c.Kind ≠ 1))).key) ++ c.Key) [])]).length c20) 27 5 (ys ++ [(Change.mk 0 a.Id (((R27.sideV a c.Record (decide (c.Kind ≠ 1))).key) ++ c.Key) (((R27.sideV a c.Record (decide (c.Kind ≠ 1))).key) ++ c.Key) [])]).length ((ys ++ [(Change.mk 0 a.Id (((R27.sideV a c.Record (decide (c.Kind ≠ 1))).key) ++ c.Key) (((R27.sideV a c.Record (decide (c.Kind ≠ 1))).key) ++ c.Key) [])]).flatMap Change.enc)] (fun _ h => (((((((((h.front 12 _ rfl).front 12 _ rfl).front 2 _ rfl).front 12 _ rfl).front 12 _ rfl).front 12 _ rfl).front 12 _ rfl).front 12 _ rfl).front 12 _ rfl).keep [true, true, true, true, true, true, true, true, true, false, false, false, false] rfl) ⟨xsA, xsC, A19, c20, xs, ys ++ [(Change.mk 0 a.Id (((R27.sideV a c.Record (decide (c.Kind ≠ 1))).key) ++ c.Key) (((R27.sideV a c.Record (decide (c.Kind ≠ 1))).key) ++ c.Key) [])], e22, e23, ?_, ?_, ?_, ?_, ?_, ?_⟩
      ·rfl
      ·rfl
      ·first
        | exact R27.qs_same (R27.st_eq (by assumption))
        | exact R27.qs_same (R27.st_tf (by assumption) (by assumption) (by assumption))
        | exact R27.qs_same (R27.st_ff (by assumption) (by assumption) (by assumption))
        | exact R27.qs_same (R27.st_ttn (by assumption) (by assumption) (by assumption) (by assumption))
        | exact R27.qs_same (R27.st_ftn (by assumption) (by assumption) (by assumption) (by assumption))
        | exact R27.qs_dup hf24 (R27.st_ttu (by assumption) (by assumption) (by assumption) (by assumption)) rfl
        | exact R27.qs_dup hf24 (R27.st_ftu (by assumption) (by assumption) (by assumption) (by assumption)) rfl
      ·(try simp only [List.length_append, List.length_cons, List.length_nil]); omega
      ·(try simp only [List.length_append, List.length_cons, List.length_nil]); omega
      ·assumption
     ·have h21w := h21
      refine sk_ (n_ (q_ (g_ (s_ av_ (z_ (n_ (rt_ ?_)))))))
      refine JX_rets [_] _ Try.results27 (fun w h => ⟨rfl, trivial⟩) rfl _ (fun _ h => h.keep [false, false, false, false, true, true, true, true, true, true, true, true, true] rfl) ⟨xsA, xsC, A19, c20, xs, ys ++ [(Change.mk 0 a.Id (((R27.sideV a c.Record (decide (c.Kind ≠ 1))).key) ++ c.Key) (((R27.sideV a c.Record (decide (c.Kind ≠ 1))).key) ++ c.Key) [])], 0, b, ?_, ?_, ?_, ?_, ?_, ?_⟩
      ·rfl
      ·rfl
      ·first
        | exact R27.qs_same (R27.st_eq (by assumption))
        | exact R27.qs_same (R27.st_tf (by assumption) (by assumption) (by assumption))
        | exact R27.qs_same (R27.st_ff (by assumption) (by assumption) (by assumption))
        | exact R27.qs_same (R27.st_ttn (by assumption) (by assumption) (by assumption) (by assumption))
        | exact R27.qs_same (R27.st_ftn (by assumption) (by assumption) (by assumption) (by assumption))
        | exact R27.qs_dup no_such_condition (R27.st_ttu (by assumption) (by assumption) (by assumption) (by assumption)) rfl
        | exact R27.qs_dup no_such_condition (R27.st_ftu (by assumption) (by assumption) (by assumption) (by assumption)) rfl
      ·(try simp only [List.length_append, List.length_cons, List.length_nil]); omega
      ·(try simp only [List.length_append, List.length_cons, List.length_nil]); omega
      ·assumption
 ·refine JA_ready (rs := [3, 11, 12]) (by kernel_rfl) (by decide) gm_ (List.forall_mem_cons.2 ⟨?_, (List.forall_mem_cons.2 ⟨?_, (List.forall_mem_cons.2 ⟨?_, all_nil⟩)⟩)⟩)
  ·refine jc0_ rfl (cl_ Ty.ca28) (fun w hS => f28_ok a old th w) ?_
   have ha26 := R27.sideV_len a old th
   refine JA_ready (rs := [10, 11, 12]) (by kernel_rfl) (by decide) gm_ (List.forall_mem_cons.2 ⟨?_, (List.forall_mem_cons.2 ⟨?_, (List.forall_mem_cons.2 ⟨?_, all_nil⟩)⟩)⟩)
   ·refine jc0_ rfl (cl_ Ty.ca28) (fun w hS => f28_ok a _ _ w) ?_
    have ha27 := R27.sideV_len a c.Record (decide (c.Kind ≠ 1))
    refine JA_ready (rs := [11, 12]) (by kernel_rfl) (by decide) gm_ (List.forall_mem_cons.2 ⟨?_, (List.forall_mem_cons.2 ⟨?_, all_nil⟩)⟩)
    ·refine jio_ rfl (al_ Ty.ze78 fun b28 => ?_)
     refine j1_ 12 (jio_ rfl (al_ Ty.ze78 fun b30 => ?_)) (fun _ h => ⟨h.keep [false, true, true, true, true, true, true, true, true, true, true] rfl, fun _ => h.keep [false, true, true, true, true, true, true, true, true, true, true] rfl⟩)
     refine j1_ 13 (jio_ rfl (stG 1 Ty.sz78 ?_)) (fun _ h => ⟨h.keep [false, false, true, true, true, true, true, true, true, true, true, true] rfl, fun _ => h.keep [false, false, true, true, true, true, true, true, true, true, true, true] rfl⟩)
     refine j1_ 14 (jio_ rfl (stG 0 Ty.sz78 ?_)) (gl_ rfl (fun _ h => h.keep [false, false, true, true, true, true, true, true, true, true, true, true] rfl))
     exact JA_done (by kernel_rfl) (gl_ rfl (fun _ h => h.keep [false, false, true, true, true, true, true, true, true, true, true, true] rfl)) (JX_weaken (E' := [(3, pB pc 0), (4, pB px 0), (5, pB pp 0), (6, pB pr 0), (7, pB b1 0), (8, vI 0), (9, pB b28 0), (10, pB b30 0)]) (L' := [Ent.blk b30 78 [vS ((R27.sideV a c.Record (decide (c.Kind ≠ 1))).key), vB ((R27.sideV a c.Record (decide (c.Kind ≠ 1))).has)], Ent.blk b28 78 [vS ((R27.sideV a old th).key), vB ((R27.sideV a old th).has)], Ent.blk b1 24 (DataSet.enc a), Ent.blk po 9 [vS old], Ent.blk pt 4 [vB th], Ent.blk pc 27 (Change.enc c), Ent.blk px 31 [vL xsA xs.length xsC], Ent.blk pp 31 [vL ysA ys.length ysC], Ent.blk pr 70 [Value.iface 34 (vG [vL dsA ds.length dsC, pB p 0])], Ent.blk p 45 [vI b], Ent.row (.slice xsA xs.length xsC) 27 5 xs.length (xs.flatMap Change.enc), Ent.row (.slice ysA ys.length ysC) 27 5 ys.length (ys.flatMap Change.enc)]) ⟨rfl, rfl, rfl, rfl, rfl, rfl, rfl, rfl, trivial⟩ (fun _ h => h) (key2 (b28, b30)))
    ·refine jio_ rfl (al_ Ty.ze78 fun b31 => ?_)
     refine j1_ 11 (jio_ rfl (al_ Ty.ze78 fun b33 => ?_)) (fun _ h => ⟨h.keep [false, true, true, true, true, true, true, true, true, true, true] rfl, fun _ => h.keep [false, true, true, true, true, true, true, true, true, true, true] rfl⟩)
     refine j1_ 13 (jio_ rfl (stG 0 Ty.sz78 ?_)) (fun _ h => ⟨h.keep [false, false, true, true, true, true, true, true, true, true, true, true] rfl, fun _ => h.keep [false, false, true, true, true, true, true, true, true, true, true, true] rfl⟩)
     refine j1_ 14 (jio_ rfl (stG 1 Ty.sz78 ?_)) (gl_ rfl (fun _ h => h.keep [false, false, true, true, true, true, true, true, true, true, true, true] rfl))
     exact JA_done (by kernel_rfl) (gl_ rfl (fun _ h => h.keep [false, false, true, true, true, true, true, true, true, true, true, true] rfl)) (JX_weaken (E' := [(3, pB pc 0), (4, pB px 0), (5, pB pp 0), (6, pB pr 0), (7, pB b1 0), (8, vI 0), (9, pB b33 0), (10, pB b31 0)]) (L' := [Ent.blk b31 78 [vS ((R27.sideV a c.Record (decide (c.Kind ≠ 1))).key), vB ((R27.sideV a c.Record (decide (c.Kind ≠ 1))).has)], Ent.blk b33 78 [vS ((R27.sideV a old th).key), vB ((R27.sideV a old th).has)], Ent.blk b1 24 (DataSet.enc a), Ent.blk po 9 [vS old], Ent.blk pt 4 [vB th], Ent.blk pc 27 (Change.enc c), Ent.blk px 31 [vL xsA xs.length xsC], Ent.blk pp 31 [vL ysA ys.length ysC], Ent.blk pr 70 [Value.iface 34 (vG [vL dsA ds.length dsC, pB p 0])], Ent.blk p 45 [vI b], Ent.row (.slice xsA xs.length xsC) 27 5 xs.length (xs.flatMap Change.enc), Ent.row (.slice ysA ys.length ysC) 27 5 ys.length (ys.flatMap Change.enc)]) ⟨rfl, rfl, rfl, rfl, rfl, rfl, rfl, rfl, trivial⟩ (fun _ h => ((((((((((((h.front 11 _ rfl).front 11 _ rfl).front 11 _ rfl).front 11 _ rfl).front 11 _ rfl).front 11 _ rfl).front 11 _ rfl).front 11 _ rfl).front 11 _ rfl).front 11 _ rfl).front 10 _ rfl).front 11 _ rfl).keep [true, true, true, true, true, true, true, true, true, true, true, true] rfl) (key2 (b33, b31)))
   ·refine jio_ rfl (al_ Ty.ze78 fun b34 => ?_)
    refine JA_ready (rs := [10, 12]) (by kernel_rfl) (by decide) (fun _ h => ⟨h.keep [false, true, true, true, true, true, true, true, true, true, true] rfl, fun _ => h.keep [false, true, true, true, true, true, true, true, true, true, true] rfl⟩) (List.forall_mem_cons.2 ⟨?_, (List.forall_mem_cons.2 ⟨?_, all_nil⟩)⟩)
    ·refine jc0_ rfl (cl_ Ty.ca28) (fun w hS => f28_ok a _ _ w) ?_
     have ha35 := R27.sideV_len a c.Record (decide (c.Kind ≠ 1))
     refine j1_ 12 (jio_ rfl (al_ Ty.ze78 fun b37 => ?_)) (fun _ h => ⟨h.keep [false, true, true, true, true, true, true, true, true, true, true] rfl, fun _ => h.keep [false, true, true, true, true, true, true, true, true, true, true] rfl⟩)
     refine j1_ 13 (jio_ rfl (stG 1 Ty.sz78 ?_)) (fun _ h => ⟨h.keep [false, false, true, true, true, true, true, true, true, true, true, true] rfl, fun _ => h.keep [false, false, true, true, true, true, true, true, true, true, true, true] rfl⟩)
     refine j1_ 14 (jio_ rfl (stG 0 Ty.sz78 ?_)) (gl_ rfl (fun _ h => h.keep [false, false, true, true, true, true, true, true, true, true, true, true] rfl))
     exact JA_done (by kernel_rfl) (gl_ rfl (fun _ h => h.keep [false, false, true, true, true, true, true, true, true, true, true, true] rfl)) (JX_weaken (E' := [(3, pB pc 0), (4, pB px 0), (5, pB pp 0), (6, pB pr 0), (7, pB b1 0), (8, vI 0), (9, pB b34 0), (10, pB b37 0)]) (L' := [Ent.blk b37 78 [vS ((R27.sideV a c.Record (decide (c.Kind ≠ 1))).key), vB ((R27.sideV a c.Record (decide (c.Kind ≠ 1))).has)], Ent.blk b34 78 [vS ((R27.sideV a old th).key), vB ((R27.sideV a old th).has)], Ent.blk b1 24 (DataSet.enc a), Ent.blk po 9 [vS old], Ent.blk pt 4 [vB th], Ent.blk pc 27 (Change.enc c), Ent.blk px 31 [vL xsA xs.length xsC], Ent.blk pp 31 [vL ysA ys.length ysC], Ent.blk pr 70 [Value.iface 34 (vG [vL dsA ds.length dsC, pB p 0])], Ent.blk p 45 [vI b], Ent.row (.slice xsA xs.length xsC) 27 5 xs.length (xs.flatMap Change.enc), Ent.row (.slice ysA ys.length ysC) 27 5 ys.length (ys.flatMap Change.enc)]) ⟨rfl, rfl, rfl, rfl, rfl, rfl, rfl, rfl, trivial⟩ (fun _ h => h) (key2 (b34, b37)))
    ·refine jio_ rfl (al_ Ty.ze78 fun b38 => ?_)
     refine j1_ 10 (jc0_ rfl (cl_ Ty.ca28) (fun w hS => f28_ok a _ _ w) ?_) (fun _ h => ⟨h.keep [false, false, true, true, true, true, true, true, true, true, true, true] rfl, fun _ => h.keep [false, false, true, true, true, true, true, true, true, true, true, true] rfl⟩)
     have ha39 := R27.sideV_len a c.Record (decide (c.Kind ≠ 1))
     refine j1_ 13 (jio_ rfl (stG 1 Ty.sz78 ?_)) (fun _ h => ⟨h.keep [false, false, true, true, true, true, true, true, true, true, true, true] rfl, fun _ => h.keep [false, false, true, true, true, true, true, true, true, true, true, true] rfl⟩)
     refine j1_ 14 (jio_ rfl (stG 0 Ty.sz78 ?_)) (gl_ rfl (fun _ h => h.keep [false, false, true, true, true, true, true, true, true, true, true, true] rfl))
     exact JA_done (by kernel_rfl) (gl_ rfl (fun _ h => h.keep [false, false, true, true, true, true, true, true, true, true, true, true] rfl)) (JX_weaken (E' := [(3, pB pc 0), (4, pB px 0), (5, pB pp 0), (6, pB pr 0), (7, pB b1 0), (8, vI 0), (9, pB b34 0), (10, pB b38 0)]) (L' := [Ent.blk b38 78 [vS ((R27.sideV a c.Record (decide (c.Kind ≠ 1))).key), vB ((R27.sideV a c.Record (decide (c.Kind ≠ 1))).has)], Ent.blk b34 78 [vS ((R27.sideV a old th).key), vB ((R27.sideV a old th).has)], Ent.blk b1 24 (DataSet.enc a), Ent.blk po 9 [vS old], Ent.blk pt 4 [vB th], Ent.blk pc 27 (Change.enc c), Ent.blk px 31 [vL xsA xs.length xsC], Ent.blk pp 31 [vL ysA ys.length ysC], Ent.blk pr 70 [Value.iface 34 (vG [vL dsA ds.length dsC, pB p 0])], Ent.blk p 45 [vI b], Ent.row (.slice xsA xs.length xsC) 27 5 xs.length (xs.flatMap Change.enc), Ent.row (.slice ysA ys.length ysC) 27 5 ys.length (ys.flatMap Change.enc)]) ⟨rfl, rfl, rfl, rfl, rfl, rfl, rfl, rfl, trivial⟩ (fun _ h => h) (key2 (b34, b38)))
   ·refine jio_ rfl (al_ Ty.ze78 fun b40 => ?_)
    refine JA_ready (rs := [10, 11]) (by kernel_rfl) (by decide) (fun _ h => ⟨h.keep [false, true, true, true, true, true, true, true, true, true, true] rfl, fun _ => h.keep [false, true, true, true, true, true, true, true, true, true, true] rfl⟩) (List.forall_mem_cons.2 ⟨?_, (List.forall_mem_cons.2 ⟨?_, all_nil⟩)⟩)
    ·refine jc0_ rfl (cl_ Ty.ca28) (fun w hS => f28_ok a _ _ w) ?_
     have ha41 := R27.sideV_len a c.Record (decide (c.Kind ≠ 1))
     refine j1_ 11 (jio_ rfl (al_ Ty.ze78 fun b43 => ?_)) (fun _ h => ⟨h.keep [false, true, true, true, true, true, true, true, true, true, true] rfl, fun _ => h.keep [false, true, true, true, true, true, true, true, true, true, true] rfl⟩)
     refine j1_ 13 (jio_ rfl (stG 0 Ty.sz78 ?_)) (fun _ h => ⟨h.keep [false, false, true, true, true, true, true, true, true, true, true, true] rfl, fun _ => h.keep [false, false, true, true, true, true, true, true, true, true, true, true] rfl⟩)
     refine j1_ 14 (jio_ rfl (stG 1 Ty.sz78 ?_)) (gl_ rfl (fun _ h => h.keep [false, false, true, true, true, true, true, true, true, true, true, true] rfl))
     exact JA_done (by kernel_rfl) (gl_ rfl (fun _ h => h.keep [false, false, true, true, true, true, true, true, true, true, true, true] rfl)) (JX_weaken (E' := [(3, pB pc 0), (4, pB px 0), (5, pB pp 0), (6, pB pr 0), (7, pB b1 0), (8, vI 0), (9, pB b43 0), (10, pB b40 0)]) (L' := [Ent.blk b40 78 [vS ((R27.sideV a c.Record (decide (c.Kind ≠ 1))).key), vB ((R27.sideV a c.Record (decide (c.Kind ≠ 1))).has)], Ent.blk b43 78 [vS ((R27.sideV a old th).key), vB ((R27.sideV a old th).has)], Ent.blk b1 24 (DataSet.enc a), Ent.blk po 9 [vS old], Ent.blk pt 4 [vB th], Ent.blk pc 27 (Change.enc c), Ent.blk px 31 [vL xsA xs.length xsC], Ent.blk pp 31 [vL ysA ys.length ysC], Ent.blk pr 70 [Value.iface 34 (vG [vL dsA ds.length dsC, pB p 0])], Ent.blk p 45 [vI b], Ent.row (.slice xsA xs.length xsC) 27 5 xs.length (xs.flatMap Change.enc), Ent.row (.slice ysA ys.length ysC) 27 5 ys.length (ys.flatMap Change.enc)]) ⟨rfl, rfl, rfl, rfl, rfl, rfl, rfl, rfl, trivial⟩ (fun _ h => ((((((((((((h.front 11 _ rfl).front 11 _ rfl).front 11 _ rfl).front 11 _ rfl).front 11 _ rfl).front 11 _ rfl).front 11 _ rfl).front 11 _ rfl).front 11 _ rfl).front 11 _ rfl).front 10 _ rfl).front 11 _ rfl).keep [true, true, true, true, true, true, true, true, true, true, true, true] rfl) (key2 (b43, b40)))
    ·refine jio_ rfl (al_ Ty.ze78 fun b44 => ?_)
     refine j1_ 10 (jc0_ rfl (cl_ Ty.ca28) (fun w hS => f28_ok a _ _ w) ?_) (fun _ h => ⟨h.keep [false, false, true, true, true, true, true, true, true, true, true, true] rfl, fun _ => h.keep [false, false, true, true, true, true, true, true, true, true, true, true] rfl⟩)
     have ha45 := R27.sideV_len a c.Record (decide (c.Kind ≠ 1))
     refine j1_ 13 (jio_ rfl (stG 0 Ty.sz78 ?_)) (fun _ h => ⟨h.keep [false, false, true, true, true, true, true, true, true, true, true, true] rfl, fun _ => h.keep [false, false, true, true, true, true, true, true, true, true, true, true] rfl⟩)
     refine j1_ 14 (jio_ rfl (stG 1 Ty.sz78 ?_)) (gl_ rfl (fun _ h => h.keep [false, false, true, true, true, true, true, true, true, true, true, true] rfl))
     exact JA_done (by kernel_rfl) (gl_ rfl (fun _ h => h.keep [false, false, true, true, true, true, true, true, true, true, true, true] rfl)) (JX_weaken (E' := [(3, pB pc 0), (4, pB px 0), (5, pB pp 0), (6, pB pr 0), (7, pB b1 0), (8, vI 0), (9, pB b44 0), (10, pB b40 0)]) (L' := [Ent.blk b40 78 [vS ((R27.sideV a c.Record (decide (c.Kind ≠ 1))).key), vB ((R27.sideV a c.Record (decide (c.Kind ≠ 1))).has)], Ent.blk b44 78 [vS ((R27.sideV a old th).key), vB ((R27.sideV a old th).has)], Ent.blk b1 24 (DataSet.enc a), Ent.blk po 9 [vS old], Ent.blk pt 4 [vB th], Ent.blk pc 27 (Change.enc c), Ent.blk px 31 [vL xsA xs.length xsC], Ent.blk pp 31 [vL ysA ys.length ysC], Ent.blk pr 70 [Value.iface 34 (vG [vL dsA ds.length dsC, pB p 0])], Ent.blk p 45 [vI b], Ent.row (.slice xsA xs.length xsC) 27 5 xs.length (xs.flatMap Change.enc), Ent.row (.slice ysA ys.length ysC) 27 5 ys.length (ys.flatMap Change.enc)]) ⟨rfl, rfl, rfl, rfl, rfl, rfl, rfl, rfl, trivial⟩ (fun _ h => ((((((((((((h.front 11 _ rfl).front 11 _ rfl).front 11 _ rfl).front 11 _ rfl).front 11 _ rfl).front 11 _ rfl).front 11 _ rfl).front 11 _ rfl).front 11 _ rfl).front 11 _ rfl).front 10 _ rfl).front 11 _ rfl).keep [true, true, true, true, true, true, true, true, true, true, true, true] rfl) (key2 (b44, b40)))
  ·refine jio_ rfl (al_ Ty.ze78 fun b46 => ?_)
   refine JA_ready (rs := [3, 12]) (by kernel_rfl) (by decide) (fun _ h => ⟨h.keep [false, true, true, true, true, true, true, true, true, true, true] rfl, fun _ => h.keep [false, true, true, true, true, true, true, true, true, true, true] rfl⟩) (List.forall_mem_cons.2 ⟨?_, (List.forall_mem_cons.2 ⟨?_, all_nil⟩)⟩)
   ·refine jc0_ rfl (cl_ Ty.ca28) (fun w hS => f28_ok a old th w) ?_
    have ha47 := R27.sideV_len a old th
    refine JA_ready (rs := [10, 12]) (by kernel_rfl) (by decide) (fun _ h => ⟨h.keep [false, true, true, true, true, true, true, true, true, true, true] rfl, fun _ => h.keep [false, true, true, true, true, true, true, true, true, true, true] rfl⟩) (List.forall_mem_cons.2 ⟨?_, (List.forall_mem_cons.2 ⟨?_, all_nil⟩)⟩)
    ·refine jc0_ rfl (cl_ Ty.ca28) (fun w hS => f28_ok a _ _ w) ?_
     have ha48 := R27.sideV_len a c.Record (decide (c.Kind ≠ 1))
     refine j1_ 12 (jio_ rfl (al_ Ty.ze78 fun b50 => ?_)) (fun _ h => ⟨h.keep [false, true, true, true, true, true, true, true, true, true, true] rfl, fun _ => h.keep [false, true, true, true, true, true, true, true, true, true, true] rfl⟩)
     refine j1_ 13 (jio_ rfl (stG 1 Ty.sz78 ?_)) (fun _ h => ⟨h.keep [false, false, true, true, true, true, true, true, true, true, true, true] rfl, fun _ => h.keep [false, false, true, true, true, true, true, true, true, true, true, true] rfl⟩)
     refine j1_ 14 (jio_ rfl (stG 0 Ty.sz78 ?_)) (gl_ rfl (fun _ h => h.keep [false, false, true, true, true, true, true, true, true, true, true, true] rfl))
     exact JA_done (by kernel_rfl) (gl_ rfl (fun _ h => h.keep [false, false, true, true, true, true, true, true, true, true, true, true] rfl)) (JX_weaken (E' := [(3, pB pc 0), (4, pB px 0), (5, pB pp 0), (6, pB pr 0), (7, pB b1 0), (8, vI 0), (9, pB b46 0), (10, pB b50 0)]) (L' := [Ent.blk b50 78 [vS ((R27.sideV a c.Record (decide (c.Kind ≠ 1))).key), vB ((R27.sideV a c.Record (decide (c.Kind ≠ 1))).has)], Ent.blk b46 78 [vS ((R27.sideV a old th).key), vB ((R27.sideV a old th).has)], Ent.blk b1 24 (DataSet.enc a), Ent.blk po 9 [vS old], Ent.blk pt 4 [vB th], Ent.blk pc 27 (Change.enc c), Ent.blk px 31 [vL xsA xs.length xsC], Ent.blk pp 31 [vL ysA ys.length ysC], Ent.blk pr 70 [Value.iface 34 (vG [vL dsA ds.length dsC, pB p 0])], Ent.blk p 45 [vI b], Ent.row (.slice xsA xs.length xsC) 27 5 xs.length (xs.flatMap Change.enc), Ent.row (.slice ysA ys.length ysC) 27 5 ys.length (ys.flatMap Change.enc)]) ⟨rfl, rfl, rfl, rfl, rfl, rfl, rfl, rfl, trivial⟩ (fun _ h => h) (key2 (b46, b50)))
    ·refine jio_ rfl (al_ Ty.ze78 fun b51 => ?_)
     refine j1_ 10 (jc0_ rfl (cl_ Ty.ca28) (fun w hS => f28_ok a _ _ w) ?_) (fun _ h => ⟨h.keep [false, false, true, true, true, true, true, true, true, true, true, true] rfl, fun _ => h.keep [false, false, true, true, true, true, true, true, true, true, true, true] rfl⟩)
     have ha52 := R27.sideV_len a c.Record (decide (c.Kind ≠ 1))
     refine j1_ 13 (jio_ rfl (stG 1 Ty.sz78 ?_)) (fun _ h => ⟨h.keep [false, false, true, true, true, true, true, true, true, true, true, true] rfl, fun _ => h.keep [false, false, true, true, true, true, true, true, true, true, true, true] rfl⟩)
     refine j1_ 14 (jio_ rfl (stG 0 Ty.sz78 ?_)) (gl_ rfl (fun _ h => h.keep [false, false, true, true, true, true, true, true, true, true, true, true] rfl))
     exact JA_done (by kernel_rfl) (gl_ rfl (fun _ h => h.keep [false, false, true, true, true, true, true, true, true, true, true, true] rfl)) (JX_weaken (E' := [(3, pB pc 0), (4, pB px 0), (5, pB pp 0), (6, pB pr 0), (7, pB b1 0), (8, vI 0), (9, pB b46 0), (10, pB b51 0)]) (L' := [Ent.blk b51 78 [vS ((R27.sideV a c.Record (decide (c.Kind ≠ 1))).key), vB ((R27.sideV a c.Record (decide (c.Kind ≠ 1))).has)], Ent.blk b46 78 [vS ((R27.sideV a old th).key), vB ((R27.sideV a old th).has)], Ent.blk b1 24 (DataSet.enc a), Ent.blk po 9 [vS old], Ent.blk pt 4 [vB th], Ent.blk pc 27 (Change.enc c), Ent.blk px 31 [vL xsA xs.length xsC], Ent.blk pp 31 [vL ysA ys.length ysC], Ent.blk pr 70 [Value.iface 34 (vG [vL dsA ds.length dsC, pB p 0])], Ent.blk p 45 [vI b], Ent.row (.slice xsA xs.length xsC) 27 5 xs.length (xs.flatMap Change.enc), Ent.row (.slice ysA ys.length ysC) 27 5 ys.length (ys.flatMap Change.enc)]) ⟨rfl, rfl, rfl, rfl, rfl, rfl, rfl, rfl, trivial⟩ (fun _ h => h) (key2 (b46, b51)))
   ·refine jio_ rfl (al_ Ty.ze78 fun b53 => ?_)
    refine j1_ 3 (jc0_ rfl (cl_ Ty.ca28) (fun w hS => f28_ok a old th w) ?_) (fun _ h => ⟨h.keep [false, false, true, true, true, true, true, true, true, true, true, true] rfl, fun _ => h.keep [false, false, true, true, true, true, true, true, true, true, true, true] rfl⟩)
    have ha54 := R27.sideV_len a old th
    refine j1_ 10 (jc0_ rfl (cl_ Ty.ca28) (fun w hS => f28_ok a _ _ w) ?_) (fun _ h => ⟨h.keep [false, false, true, true, true, true, true, true, true, true, true, true] rfl, fun _ => h.keep [false, false, true, true, true, true, true, true, true, true, true, true] rfl⟩)
    have ha55 := R27.sideV_len a c.Record (decide (c.Kind ≠ 1))
    refine j1_ 13 (jio_ rfl (stG 1 Ty.sz78 ?_)) (fun _ h => ⟨h.keep [false, false, true, true, true, true, true, true, true, true, true, true] rfl, fun _ => h.keep [false, false, true, true, true, true, true, true, true, true, true, true] rfl⟩)
    refine j1_ 14 (jio_ rfl (stG 0 Ty.sz78 ?_)) (gl_ rfl (fun _ h => h.keep [false, false, true, true, true, true, true, true, true, true, true, true] rfl))
    exact JA_done (by kernel_rfl) (gl_ rfl (fun _ h => h.keep [false, false, true, true, true, true, true, true, true, true, true, true] rfl)) (JX_weaken (E' := [(3, pB pc 0), (4, pB px 0), (5, pB pp 0), (6, pB pr 0), (7, pB b1 0), (8, vI 0), (9, pB b46 0), (10, pB b53 0)]) (L' := [Ent.blk b53 78 [vS ((R27.sideV a c.Record (decide (c.Kind ≠ 1))).key), vB ((R27.sideV a c.Record (decide (c.Kind ≠ 1))).has)], Ent.blk b46 78 [vS ((R27.sideV a old th).key), vB ((R27.sideV a old th).has)], Ent.blk b1 24 (DataSet.enc a), Ent.blk po 9 [vS old], Ent.blk pt 4 [vB th], Ent.blk pc 27 (Change.enc c), Ent.blk px 31 [vL xsA xs.length xsC], Ent.blk pp 31 [vL ysA ys.length ysC], Ent.blk pr 70 [Value.iface 34 (vG [vL dsA ds.length dsC, pB p 0])], Ent.blk p 45 [vI b], Ent.row (.slice xsA xs.length xsC) 27 5 xs.length (xs.flatMap Change.enc), Ent.row (.slice ysA ys.length ysC) 27 5 ys.length (ys.flatMap Change.enc)]) ⟨rfl, rfl, rfl, rfl, rfl, rfl, rfl, rfl, trivial⟩ (fun _ h => h) (key2 (b46, b53)))
  ·refine jio_ rfl (al_ Ty.ze78 fun b56 => ?_)
   refine JA_ready (rs := [3, 11]) (by kernel_rfl) (by decide) (fun _ h => ⟨h.keep [false, true, true, true, true, true, true, true, true, true, true] rfl, fun _ => h.keep [false, true, true, true, true, true, true, true, true, true, true] rfl⟩) (List.forall_mem_cons.2 ⟨?_, (List.forall_mem_cons.2 ⟨?_, all_nil⟩)⟩)
   ·refine jc0_ rfl (cl_ Ty.ca28) (fun w hS => f28_ok a old th w) ?_
    have ha57 := R27.sideV_len a old th
    refine JA_ready (rs := [10, 11]) (by kernel_rfl) (by decide) (fun _ h => ⟨h.keep [false, true, true, true, true, true, true, true, true, true, true] rfl, fun _ => h.keep [false, true, true, true, true, true, true, true, true, true, true] rfl⟩) (List.forall_mem_cons.2 ⟨?_, (List.forall_mem_cons.2 ⟨?_, all_nil⟩)⟩)
    ·refine jc0_ rfl (cl_ Ty.ca28) (fun w hS => f28_ok a _ _ w) ?_
     have ha58 := R27.sideV_len a c.Record (decide (c.Kind ≠ 1))
     refine j1_ 11 (jio_ rfl (al_ Ty.ze78 fun b60 => ?_)) (fun _ h => ⟨h.keep [false, true, true, true, true, true, true, true, true, true, true] rfl, fun _ => h.keep [false, true, true, true, true, true, true, true, true, true, true] rfl⟩)
     refine j1_ 13 (jio_ rfl (stG 0 Ty.sz78 ?_)) (fun _ h => ⟨h.keep [false, false, true, true, true, true, true, true, true, true, true, true] rfl, fun _ => h.keep [false, false, true, true, true, true, true, true, true, true, true, true] rfl⟩)
     refine j1_ 14 (jio_ rfl (stG 1 Ty.sz78 ?_)) (gl_ rfl (fun _ h => h.keep [false, false, true, true, true, true, true, true, true, true, true, true] rfl))
     exact JA_done (by kernel_rfl) (gl_ rfl (fun _ h => h.keep [false, false, true, true, true, true, true, true, true, true, true, true] rfl)) (JX_weaken (E' := [(3, pB pc 0), (4, pB px 0), (5, pB pp 0), (6, pB pr 0), (7, pB b1 0), (8, vI 0), (9, pB b60 0), (10, pB b56 0)]) (L' := [Ent.blk b56 78 [vS ((R27.sideV a c.Record (decide (c.Kind ≠ 1))).key), vB ((R27.sideV a c.Record (decide (c.Kind ≠ 1))).has)], Ent.blk b60 78 [vS ((R27.sideV a old th).key), vB ((R27.sideV a old th).has)], Ent.blk b1 24 (DataSet.enc a), Ent.blk po 9 [vS old], Ent.blk pt 4 [vB th], Ent.blk pc 27 (Change.enc c), Ent.blk px 31 [vL xsA xs.length xsC], Ent.blk pp 31 [vL ysA ys.length ysC], Ent.blk pr 70 [Value.iface 34 (vG [vL dsA ds.length dsC, pB p 0])], Ent.blk p 45 [vI b], Ent.row (.slice xsA xs.length xsC) 27 5 xs.length (xs.flatMap Change.enc), Ent.row (.slice ysA ys.length ysC) 27 5 ys.length (ys.flatMap Change.enc)]) ⟨rfl, rfl, rfl, rfl, rfl, rfl, rfl, rfl, trivial⟩ (fun _ h => ((((((((((((h.front 11 _ rfl).front 11 _ rfl).front 11 _ rfl).front 11 _ rfl).front 11 _ rfl).front 11 _ rfl).front 11 _ rfl).front 11 _ rfl).front 11 _ rfl).front 11 _ rfl).front 10 _ rfl).front 11 _ rfl).keep [true, true, true, true, true, true, true, true, true, true, true, true] rfl) (key2 (b60, b56)))
    ·refine jio_ rfl (al_ Ty.ze78 fun b61 => ?_)
     refine j1_ 10 (jc0_ rfl (cl_ Ty.ca28) (fun w hS => f28_ok a _ _ w) ?_) (fun _ h => ⟨h.keep [false, false, true, true, true, true, true, true, true, true, true, true] rfl, fun _ => h.keep [false, false, true, true, true, true, true, true, true, true, true, true] rfl⟩)
     have ha62 := R27.sideV_len a c.Record (decide (c.Kind ≠ 1))
     refine j1_ 13 (jio_ rfl (stG 0 Ty.sz78 ?_)) (fun _ h => ⟨h.keep [false, false, true, true, true, true, true, true, true, true, true, true] rfl, fun _ => h.keep [false, false, true, true, true, true, true, true, true, true, true, true] rfl⟩)
     refine j1_ 14 (jio_ rfl (stG 1 Ty.sz78 ?_)) (gl_ rfl (fun _ h => h.keep [false, false, true, true, true, true, true, true, true, true, true, true] rfl))
     exact JA_done (by kernel_rfl) (gl_ rfl (fun _ h => h.keep [false, false, true, true, true, true, true, true, true, true, true, true] rfl)) (JX_weaken (E' := [(3, pB pc 0), (4, pB px 0), (5, pB pp 0), (6, pB pr 0), (7, pB b1 0), (8, vI 0), (9, pB b61 0), (10, pB b56 0)]) (L' := [Ent.blk b56 78 [vS ((R27.sideV a c.Record (decide (c.Kind ≠ 1))).key), vB ((R27.sideV a c.Record (decide (c.Kind ≠ 1))).has)], Ent.blk b61 78 [vS ((R27.sideV a old th).key), vB ((R27.sideV a old th).has)], Ent.blk b1 24 (DataSet.enc a), Ent.blk po 9 [vS old], Ent.blk pt 4 [vB th], Ent.blk pc 27 (Change.enc c), Ent.blk px 31 [vL xsA xs.length xsC], Ent.blk pp 31 [vL ysA ys.length ysC], Ent.blk pr 70 [Value.iface 34 (vG [vL dsA ds.length dsC, pB p 0])], Ent.blk p 45 [vI b], Ent.row (.slice xsA xs.length xsC) 27 5 xs.length (xs.flatMap Change.enc), Ent.row (.slice ysA ys.length ysC) 27 5 ys.length (ys.flatMap Change.enc)]) ⟨rfl, rfl, rfl, rfl, rfl, rfl, rfl, rfl, trivial⟩ (fun _ h => ((((((((((((h.front 11 _ rfl).front 11 _ rfl).front 11 _ rfl).front 11 _ rfl).front 11 _ rfl).front 11 _ rfl).front 11 _ rfl).front 11 _ rfl).front 11 _ rfl).front 11 _ rfl).front 10 _ rfl).front 11 _ rfl).keep [true, true, true, true, true, true, true, true, true, true, true, true] rfl) (key2 (b61, b56)))
   ·refine jio_ rfl (al_ Ty.ze78 fun b63 => ?_)
    refine j1_ 3 (jc0_ rfl (cl_ Ty.ca28) (fun w hS => f28_ok a old th w) ?_) (fun _ h => ⟨h.keep [false, false, true, true, true, true, true, true, true, true, true, true] rfl, fun _ => h.keep [false, false, true, true, true, true, true, true, true, true, true, true] rfl⟩)
    have ha64 := R27.sideV_len a old th
    refine j1_ 10 (jc0_ rfl (cl_ Ty.ca28) (fun w hS => f28_ok a _ _ w) ?_) (fun _ h => ⟨h.keep [false, false, true, true, true, true, true, true, true, true, true, true] rfl, fun _ => h.keep [false, false, true, true, true, true, true, true, true, true, true, true] rfl⟩)
    have ha65 := R27.sideV_len a c.Record (decide (c.Kind ≠ 1))
    refine j1_ 13 (jio_ rfl (stG 0 Ty.sz78 ?_)) (fun _ h => ⟨h.keep [false, false, true, true, true, true, true, true, true, true, true, true] rfl, fun _ => h.keep [false, false, true, true, true, true, true, true, true, true, true, true] rfl⟩)
    refine j1_ 14 (jio_ rfl (stG 1 Ty.sz78 ?_)) (gl_ rfl (fun _ h => h.keep [false, false, true, true, true, true, true, true, true, true, true, true] rfl))
    exact JA_done (by kernel_rfl) (gl_ rfl (fun _ h => h.keep [false, false, true, true, true, true, true, true, true, true, true, true] rfl)) (JX_weaken (E' := [(3, pB pc 0), (4, pB px 0), (5, pB pp 0), (6, pB pr 0), (7, pB b1 0), (8, vI 0), (9, pB b63 0), (10, pB b56 0)]) (L' := [Ent.blk b56 78 [vS ((R27.sideV a c.Record (decide (c.Kind ≠ 1))).key), vB ((R27.sideV a c.Record (decide (c.Kind ≠ 1))).has)], Ent.blk b63 78 [vS ((R27.sideV a old th).key), vB ((R27.sideV a old th).has)], Ent.blk b1 24 (DataSet.enc a), Ent.blk po 9 [vS old], Ent.blk pt 4 [vB th], Ent.blk pc 27 (Change.enc c), Ent.blk px 31 [vL xsA xs.length xsC], Ent.blk pp 31 [vL ysA ys.length ysC], Ent.blk pr 70 [Value.iface 34 (vG [vL dsA ds.length dsC, pB p 0])], Ent.blk p 45 [vI b], Ent.row (.slice xsA xs.length xsC) 27 5 xs.length (xs.flatMap Change.enc), Ent.row (.slice ysA ys.length ysC) 27 5 ys.length (ys.flatMap Change.enc)]) ⟨rfl, rfl, rfl, rfl, rfl, rfl, rfl, rfl, trivial⟩ (fun _ h => ((((((((((((h.front 11 _ rfl).front 11 _ rfl).front 11 _ rfl).front 11 _ rfl).front 11 _ rfl).front 11 _ rfl).front 11 _ rfl).front 11 _ rfl).front 11 _ rfl).front 11 _ rfl).front 10 _ rfl).front 11 _ rfl).keep [true, true, true, true, true, true, true, true, true, true, true, true] rfl) (key2 (b63, b56)))
set_option maxHeartbeats 1000000 in
set_option maxRecDepth 20000 in
theorem f25_okC (ds : List Data) (dsA : Option Addr) (dsC : Nat) (alts : List DataSet) (altsA : Option Addr) (altsC : Nat) (al : Nat) (po : Nat) (pt : Nat) (pc : Nat) (px : Nat) (pp : Nat) (pr : Nat) (xs : List Change) (xsA : Option Addr) (xsC : Nat) (xsN : Nat) (ys : List Change) (ysA : Option Addr) (ysC : Nat) (ysN : Nat) (old : Bytes) (th : Bool) (c : Change) (p : Nat) (b : Int) (w : World) (dsR : RO (Lown [Ent.blk al 25 [vL altsA alts.length altsC], Ent.blk po 9 [vS old], Ent.blk pt 4 [vB th], Ent.blk pc 27 (Change.enc c), Ent.blk px 31 [vL xsA xsN xsC], Ent.blk pp 31 [vL ysA ysN ysC], Ent.blk pr 70 [Value.iface 34 (vG [vL dsA ds.length dsC, pB p 0])], Ent.blk p 45 [vI b], Ent.row (.slice xsA xsN xsC) 27 5 xsN (xs.flatMap Change.enc), Ent.row (.slice ysA ysN ysC) 27 5 ysN (ys.flatMap Change.enc)]) w dsA (ds.flatMap Data.enc)) (dsN : ∀ i : Nat, RO (Lown [Ent.blk al 25 [vL altsA alts.length altsC], Ent.blk po 9 [vS old], Ent.blk pt 4 [vB th], Ent.blk pc 27 (Change.enc c), Ent.blk px 31 [vL xsA xsN xsC], Ent.blk pp 31 [vL ysA ysN ysC], Ent.blk pr 70 [Value.iface 34 (vG [vL dsA ds.length dsC, pB p 0])], Ent.blk p 45 [vI b], Ent.row (.slice xsA xsN xsC) 27 5 xsN (xs.flatMap Change.enc), Ent.row (.slice ysA ysN ysC) 27 5 ysN (ys.flatMap Change.enc)]) w (ds.getD i default).PairsA (((ds.getD i default).Pairs).flatMap Pair.enc)) (altsR : RO (Lown [Ent.blk al 25 [vL altsA alts.length altsC], Ent.blk po 9 [vS old], Ent.blk pt 4 [vB th], Ent.blk pc 27 (Change.enc c), Ent.blk px 31 [vL xsA xsN xsC], Ent.blk pp 31 [vL ysA ysN ysC], Ent.blk pr 70 [Value.iface 34 (vG [vL dsA ds.length dsC, pB p 0])], Ent.blk p 45 [vI b], Ent.row (.slice xsA xsN xsC) 27 5 xsN (xs.flatMap Change.enc), Ent.row (.slice ysA ysN ysC) 27 5 ysN (ys.flatMap Change.enc)]) w altsA (alts.flatMap DataSet.enc)) (xsQ : xsN = xs.length) (ysQ : ysN = ys.length) (q0 : ds.length ≤ 1000) (q1 : ∀ i, (ds.getD i default).Pairs.length ≤ 1000) (q2 : c.Key.length ≤ 1000) (q3 : c.Record.length ≤ 1000) (q4 : old.length ≤ 1000) (q5 : xs.length ≤ 100) (q6 : ys.length ≤ 100) (q7 : alts.length ≤ 100) (q8 : b ≤ 1000) (hg : Give (Lown [Ent.blk al 25 [vL altsA alts.length altsC], Ent.blk po 9 [vS old], Ent.blk pt 4 [vB th], Ent.blk pc 27 (Change.enc c), Ent.blk px 31 [vL xsA xsN xsC], Ent.blk pp 31 [vL ysA ysN ysC], Ent.blk pr 70 [Value.iface 34 (vG [vL dsA ds.length dsC, pB p 0])], Ent.blk p 45 [vI b], Ent.row (.slice xsA xsN xsC) 27 5 xsN (xs.flatMap Change.enc), Ent.row (.slice ysA ysN ysC) 27 5 ysN (ys.flatMap Change.enc)]) w [Ent.blk al 25 [vL altsA alts.length altsC], Ent.blk po 9 [vS old], Ent.blk pt 4 [vB th], Ent.blk pc 27 (Change.enc c), Ent.blk px 31 [vL xsA xsN xsC], Ent.blk pp 31 [vL ysA ysN ysC], Ent.blk pr 70 [Value.iface 34 (vG [vL dsA ds.length dsC, pB p 0])], Ent.blk p 45 [vI b], Ent.row (.slice xsA xsN xsC) 27 5 xsN (xs.flatMap Change.enc), Ent.row (.slice ysA ysN ysC) 27 5 ysN (ys.flatMap Change.enc)]) : Calls Try.prog 25 #[Value.func (.func 27) #[] #[pB po 0, pB pt 0, pB pc 0, pB px 0, pB pp 0, pB pr 0], pB al 0] w (Gives (Lown [Ent.blk al 25 [vL altsA alts.length altsC], Ent.blk po 9 [vS old], Ent.blk pt 4 [vB th], Ent.blk pc 27 (Change.enc c), Ent.blk px 31 [vL xsA xsN xsC], Ent.blk pp 31 [vL ysA ysN ysC], Ent.blk pr 70 [Value.iface 34 (vG [vL dsA ds.length dsC, pB p 0])], Ent.blk p 45 [vI b], Ent.row (.slice xsA xsN xsC) 27 5 xsN (xs.flatMap Change.enc), Ent.row (.slice ysA ysN ysC) 27 5 ysN (ys.flatMap Change.enc)]) w fun v L => ∃ A2 : Option Addr, ∃ c2 : Nat, ∃ A3 : Option Addr, ∃ c3 : Nat, ∃ zs : List Change, ∃ us : List Change, ∃ e : Int, ∃ b2 : Int, v = vI e ∧ L = [Ent.blk al 25 [vL altsA alts.length altsC], Ent.blk po 9 [vS old], Ent.blk pt 4 [vB th], Ent.blk pc 27 (Change.enc c), Ent.blk px 31 [vL A2 zs.length c2], Ent.blk pp 31 [vL A3 us.length c3], Ent.blk pr 70 [Value.iface 34 (vG [vL dsA ds.length dsC, pB p 0])], Ent.blk p 45 [vI b2], Ent.row (.slice A2 zs.length c2) 27 5 zs.length (zs.flatMap Change.enc), Ent.row (.slice A3 us.length c3) 27 5 us.length (us.flatMap Change.enc)] ∧ (R27.QS (zs, us, e) (R27.stepsA ds c old th alts (xs, ys, 0)) b b2) ∧ (zs.length ≤ xs.length + alts.length) ∧ (us.length ≤ ys.length + alts.length) ∧ (b2 ≤ 1000)) := by
 subst xsQ
 subst ysQ
 refine calls_J (Lown [Ent.blk al 25 [vL altsA alts.length altsC], Ent.blk po 9 [vS old], Ent.blk pt 4 [vB th], Ent.blk pc 27 (Change.enc c), Ent.blk px 31 [vL xsA xs.length xsC], Ent.blk pp 31 [vL ysA ys.length ysC], Ent.blk pr 70 [Value.iface 34 (vG [vL dsA ds.length dsC, pB p 0])], Ent.blk p 45 [vI b], Ent.row (.slice xsA xs.length xsC) 27 5 xs.length (xs.flatMap Change.enc), Ent.row (.slice ysA ys.length ysC) 27 5 ys.length (ys.flatMap Change.enc)]) 20 Try.func25 rfl Try.ntmps25 [(0, _), (1, _)] rfl rfl hg ?_
 refine q_ (g_ (s_ av_ (z_ (n_ (q_ (q_ (g_ (r_ (ld_ 0 Ty.sc25) (s_ (lnS Try.underlying25) (s_ mv_ (z_ (n_ (k_ ?_)))))))))))))
 refine J_loop (X := Nat × (List Change) × (Option Addr) × Nat × (List Change) × (Option Addr) × Nat × Int) (fun (⟨k, xs2, xs2A, xs2C, ys2, ys2A, ys2C, bb⟩ : Nat × (List Change) × (Option Addr) × Nat × (List Change) × (Option Addr) × Nat × Int) => (k ≤ alts.length) ∧ ((xs2, ys2, (0 : Int)) = R27.stepsA ds c old th (alts.take k) (xs, ys, 0)) ∧ (xs2.length ≤ xs.length + k) ∧ (ys2.length ≤ ys.length + k) ∧ (b ≤ 0 → bb = b) ∧ (bb ≤ 1000)) (fun (⟨k, xs2, xs2A, xs2C, ys2, ys2A, ys2C, bb⟩ : Nat × (List Change) × (Option Addr) × Nat × (List Change) × (Option Addr) × Nat × Int) => [(0, Value.func (.func 27) #[] #[pB po 0, pB pt 0, pB pc 0, pB px 0, pB pp 0, pB pr 0]), (7, vL altsA alts.length altsC), (8, vI ((alts.length : Nat) : Int)), (9, vI ((k : Nat) : Int))]) (fun (⟨k, xs2, xs2A, xs2C, ys2, ys2A, ys2C, bb⟩ : Nat × (List Change) × (Option Addr) × Nat × (List Change) × (Option Addr) × Nat × Int) => [Ent.blk al 25 [vL altsA alts.length altsC], Ent.blk po 9 [vS old], Ent.blk pt 4 [vB th], Ent.blk pc 27 (Change.enc c), Ent.blk px 31 [vL xs2A xs2.length xs2C], Ent.blk pp 31 [vL ys2A ys2.length ys2C], Ent.blk pr 70 [Value.iface 34 (vG [vL dsA ds.length dsC, pB p 0])], Ent.blk p 45 [vI bb], Ent.row (.slice xs2A xs2.length xs2C) 27 5 xs2.length (xs2.flatMap Change.enc), Ent.row (.slice ys2A ys2.length ys2C) 27 5 ys2.length (ys2.flatMap Change.enc)]) (fun (⟨k, xs2, xs2A, xs2C, ys2, ys2A, ys2C, bb⟩ : Nat × (List Change) × (Option Addr) × Nat × (List Change) × (Option Addr) × Nat × Int) => alts.length - k) ((0, xs, xsA, xsC, ys, ysA, ysC, b) : Nat × (List Change) × (Option Addr) × Nat × (List Change) × (Option Addr) × Nat × Int) ?_ ⟨rfl, rfl, rfl, rfl, trivial⟩ (fun _ h => h) ?_
 ·try dsimp only
  refine ⟨?_, ?_, ?_, ?_, ?_, ?_⟩
  ·first | rfl | omega | (simp_all; done) | (simp_all; omega)
  ·rfl
  ·exact Nat.le_refl _
  ·exact Nat.le_refl _
  ·exact fun _ => rfl
  ·assumption
 rintro ⟨k, xs2, xs2A, xs2C, ys2, ys2A, ys2C, bb⟩ hI1
 obtain ⟨i1_0, i1_1, i1_2, i1_3, i1_4, i1_5⟩ := hI1
 try dsimp only at i1_0
 try dsimp only at i1_1
 try dsimp only at i1_2
 try dsimp only at i1_3
 try dsimp only at i1_4
 try dsimp only at i1_5
 try dsimp only
 refine q_ (g_ (s_ (x_lss_i rfl rfl) (z_ (n_ (q_ ?_)))))
 refine ifd (fun h1w h1 => ?_) (fun h1w h1 => ?_)
 ·refine sk_ (n_ (q_ (k_ (q_ (g_ (r_ (ixF DataSet.enc_len (cells_ro altsR) Try.underlying25 Ty.sz24) (r_ (ldFN DataSet.enc_len (cells_ro altsR) Ty.ag24 Ty.sz24) (o_ (al_ Ty.ze24 fun b2 => ?_)))))))))
  refine o_ (stG 0 Ty.sz24 ?_)
  refine z_ (n_ (q_ (g_ (s_ mv_ (r_ (ldN 0 (DataSet.enc (alts.getD k default)) Ty.ag24 Ty.sz24) ?_)))))
  refine JO_call (Lown [Ent.blk po 9 [vS old], Ent.blk pt 4 [vB th], Ent.blk pc 27 (Change.enc c), Ent.blk px 31 [vL xs2A xs2.length xs2C], Ent.blk pp 31 [vL ys2A ys2.length ys2C], Ent.blk pr 70 [Value.iface 34 (vG [vL dsA ds.length dsC, pB p 0])], Ent.blk p 45 [vI bb], Ent.row (.slice xs2A xs2.length xs2C) 27 5 xs2.length (xs2.flatMap Change.enc), Ent.row (.slice ys2A ys2.length ys2C) 27 5 ys2.length (ys2.flatMap Change.enc)]) [Ent.blk po 9 [vS old], Ent.blk pt 4 [vB th], Ent.blk pc 27 (Change.enc c), Ent.blk px 31 [vL xs2A xs2.length xs2C], Ent.blk pp 31 [vL ys2A ys2.length ys2C], Ent.blk pr 70 [Value.iface 34 (vG [vL dsA ds.length dsC, pB p 0])], Ent.blk p 45 [vI bb], Ent.row (.slice xs2A xs2.length xs2C) 27 5 xs2.length (xs2.flatMap Change.enc), Ent.row (.slice ys2A ys2.length ys2C) 27 5 ys2.length (ys2.flatMap Change.enc)] [Ent.blk b2 24 (DataSet.enc (alts.getD k default)), Ent.blk al 25 [vL altsA alts.length altsC]] rfl trivial (fun _ => x_callv (first := []) (caps := [pB po 0, pB pt 0, pB pc 0, pB px 0, pB pp 0, pB pr 0]) rfl Ty.ca27 rfl) (fun _ h => (((((((((((h.front 1 _ rfl).front 1 _ rfl).front 10 _ rfl).front 10 _ rfl).front 10 _ rfl).front 10 _ rfl).front 10 _ rfl).front 10 _ rfl).front 10 _ rfl).front 10 _ rfl).front 10 _ rfl).keep [true, true, true, true, true, true, true, true, true, true, true] rfl) lown_mem (fun w hS => f27_okC ds dsA dsC (alts.getD k default) po pt pc px pp pr xs2 xs2A xs2C xs2.length ys2 ys2A ys2C ys2.length old th c p bb w (dsR.on hS lown_mem) (fun i => (dsN i).on hS lown_mem) hy_ hy_ hy_ hy_ hy_ hy_ hy_ hy_ hy_ hy_ (hS.give lown_in)) ?_
  rintro _ _ ⟨e3, e4, e5, e6, zs7, us8, e9, e10, rfl, rfl, hf11, hf12, hf13, hf14⟩
  refine s_ av_ (z_ (n_ (q_ (g_ (s_ mv_ (s_ (x_neq_i rfl rfl) (z_ (n_ ?_))))))))
  refine ifd (fun h15w h15 => ?_) (fun h15w h15 => ?_)
  ·refine q_ (g_ (s_ mv_ (s_ av_ (z_ (n_ (rt_ (kq_ (nr_ (rr_ (kq_ (nr_ ?_)))))))))))
   refine JX_rets [_] _ Try.results25 (fun w h => ⟨rfl, trivial⟩) rfl [Ent.blk al 25 [vL altsA alts.length altsC], Ent.blk po 9 [vS old], Ent.blk pt 4 [vB th], Ent.blk pc 27 (Change.enc c), Ent.blk px 31 [vL e3 zs7.length e4], Ent.blk pp 31 [vL e5 us8.length e6], Ent.blk pr 70 [Value.iface 34 (vG [vL dsA ds.length dsC, pB p 0])], Ent.blk p 45 [vI e10], Ent.row (.slice e3 zs7.length e4) 27 5 zs7.length (zs7.flatMap Change.enc), Ent.row (.slice e5 us8.length e6) 27 5 us8.length (us8.flatMap Change.enc)] (fun _ h => ((((((((((h.front 8 _ rfl).front 8 _ rfl).front 8 _ rfl).front 8 _ rfl).front 8 _ rfl).front 8 _ rfl).front 8 _ rfl).front 8 _ rfl).front 8 _ rfl).front 10 _ rfl).keep [true, true, true, true, true, true, true, true, true, true, false] rfl) ⟨e3, e4, e5, e6, zs7, us8, e9, e10, ?_, ?_, ?_, ?_, ?_, ?_⟩
   ·rfl
   ·rfl
   ·first | exact R27.qs_off (by omega) i1_1 i1_4 hf11 (by assumption) | exact R27.qs_end i1_0 (by assumption) i1_1 i1_4
   ·omega
   ·omega
   ·assumption
  ·refine sk_ (kx_ (n_ (g_ (s_ (x_add_n (a := k) (b := 1) rfl rfl (by omega)) (s_ mv_ (z_ ?_))))))
   refine JX_round ((k + 1, zs7, e3, e4, us8, e5, e6, e10) : Nat × (List Change) × (Option Addr) × Nat × (List Change) × (Option Addr) × Nat × Int) ?_ ?_ ⟨rfl, rfl, rfl, rfl, trivial⟩ (fun _ h => ((((((((((h.front 8 _ rfl).front 8 _ rfl).front 8 _ rfl).front 8 _ rfl).front 8 _ rfl).front 8 _ rfl).front 8 _ rfl).front 8 _ rfl).front 8 _ rfl).front 10 _ rfl).keep [true, true, true, true, true, true, true, true, true, true, false] rfl)
   ·try dsimp only
    refine ⟨?_, ?_, ?_, ?_, ?_, ?_⟩
    ·first | rfl | omega | (simp_all; done) | (simp_all; omega)
    ·exact (R27.qs_on (by omega) i1_1 i1_4 hf11 (by assumption)).1
    ·omega
    ·omega
    ·exact (R27.qs_on (by omega) i1_1 i1_4 hf11 (by assumption)).2
    ·assumption
   ·try dsimp only
    first | omega | (simp; omega) | (simp_all; omega)
 ·refine J_exit (ne_ (re_ (kh_ (n_ (q_ ?_)))))
  refine g_ (s_ av_ (z_ (n_ (rt_ ?_))))
  refine JX_rets [_] _ Try.results25 (fun w h => ⟨rfl, trivial⟩) rfl _ (fun _ h => h) ⟨xs2A, xs2C, ys2A, ys2C, xs2, ys2, 0, bb, ?_, ?_, ?_, ?_, ?_, ?_⟩
  ·rfl
  ·rfl
  ·first | exact R27.qs_off (by omega) i1_1 i1_4 no_such_condition (by assumption) | exact R27.qs_end i1_0 (by assumption) i1_1 i1_4
  ·omega
  ·omega
  ·assumption
set_option maxHeartbeats 2000000 in
set_option maxRecDepth 20000 in
theorem f10_okB (ds : List Data) (dsA : Option Addr) (dsC : Nat) (base : DataSet) (alts : List DataSet) (altsA : Option Addr) (altsC : Nat) (c : Change) (p : Nat) (b : Int) (w : World) (dsR : RO [p] w dsA (ds.flatMap Data.enc)) (dsN : ∀ i : Nat, RO [p] w (ds.getD i default).PairsA (((ds.getD i default).Pairs).flatMap Pair.enc)) (altsR : RO [p] w altsA (alts.flatMap DataSet.enc)) (q0 : ds.length ≤ 1000) (q1 : ∀ i, (ds.getD i default).Pairs.length ≤ 1000) (q2 : alts.length ≤ 50) (q3 : c.Key.length ≤ 1000) (q4 : c.Record.length ≤ 1000) (q5 : R27.Shorts ds) (q6 : b ≤ 1000) (hg : Give [p] w [Ent.blk p 45 [vI b]]) : Calls Try.prog 10 #[Value.iface 34 (vG [vL dsA ds.length dsC, pB p 0]), vG (DataSet.enc base), vL altsA alts.length altsC, vG (Change.enc c)] w (Gives [p] w fun v L => ∃ A : Option Addr, ∃ cc : Nat, ∃ out : List Change, ∃ e : Int, ∃ b2 : Int, v = Value.tuple #[vL A out.length cc, vI e] ∧ L = [Ent.blk p 45 [vI b2], Ent.row (.slice A out.length cc) 27 5 out.length (out.flatMap Change.enc)] ∧ (R27.QP (out, e) (R27.plan ds base alts c) b b2) ∧ (out.length ≤ 200) ∧ (b2 ≤ 1000)) := by
 refine calls_J [p] 77 Try.func10 rfl Try.ntmps10 [(0, _), (1, _), (2, _), (3, _)] rfl rfl hg ?_
 refine q_ (g_ (o_ (bx1 fun b1 => ?_)))
 refine o_ (bxG fun b2 => ?_)
 refine o_ (bx1 fun b3 => ?_)
 refine o_ (bxG fun b4 => ?_)
 refine s_ av_ (s_ av_ (z_ (n_ (q_ (q_ (g_ (r_ (ldN 2 (DataSet.enc base) Ty.ag24 Ty.sz24) (r_ (ld_ 1 Ty.sc25) (c0 (cl_ Ty.ca23) (fun w hS => f23_ok base alts _ _ w (rno altsR hS) hy_) (s_ (x_not rfl) (s_ mv_ ?_)))))))))))
 refine or_ 4 (!(R27.isChange base c)) (fun g5 => ?_) ?_
 ·have g5r := g5
  have g5r : (R27.isSphere base alts) = true := bnot_false g5r
  have hi6 := R27.isSphere_valid g5r
  refine rg_ g5 (ldN 2 (DataSet.enc base) Ty.ag24 Ty.sz24) (rg_ g5 (ldN 0 (Change.enc c) Ty.ag27 Ty.sz27) (c0g g5 (cl_ Ty.ca24) (fun w hS => f24_ok base c w hy_ hy_ hy_) (sg_ g5 (x_not rfl) ?_)))
  exact cr_
 refine z_ (n_ ?_)
 refine if_ (fun h7 => ?_) (fun h7 => ?_)
 ·have h7w := h7
  simp only [Bool.and_eq_true, Bool.or_eq_true, Bool.and_eq_false_iff, Bool.or_eq_false_iff, Bool.not_eq_true', Bool.not_eq_false', decide_eq_true_eq, decide_eq_false_iff_not] at h7
  refine q_ (g_ (s_ av_ (s_ av_ (z_ (n_ (rt_ (nr_ ?_)))))))
  refine JX_rets [_, _] (Value.tuple #[_, _]) Try.results10 (fun w h => ⟨rfl, rfl, trivial⟩) rfl [Ent.blk p 45 [vI b], Ent.row (.slice none ([] : List Change).length 0) 27 5 ([] : List Change).length (([] : List Change).flatMap Change.enc)] (fun _ h => ((h.nilrow 27 5).front 5 _ rfl).keep [true, true, false, false, false, false] rfl) ⟨none, 0, ([] : List Change), 1, b, ?_, ?_, ?_, ?_, ?_⟩
  ·have e_x0 : (0 : Nat) = (([] : List Change).length) := by first | rfl | omega | (simp_all; done) | (simp_all; omega)
   exact congrArg (fun (x0 : Nat) => Value.tuple #[vL none x0 0, vI 1]) e_x0
  ·rfl
  ·first
    | (exfalso; omega)
    | exact R27.qp_same (R27.pl_bad (by assumption))
    | exact R27.qp_same (R27.pl_empty (by assumption) (by assumption))
    | exact R27.qp_get (by assumption) (by assumption) (by assumption) no_such_condition (by assumption)
    | exact R27.qp_errA (by assumption) (by assumption) (by assumption) no_such_condition (by assumption) no_such_condition (by assumption)
    | exact R27.qp_okA (by assumption) (by assumption) (by assumption) no_such_condition (by assumption) no_such_condition (by assumption)
    | exact R27.qp_errB (by assumption) (by assumption) no_such_condition (by assumption)
    | exact R27.qp_okB (by assumption) (by assumption) no_such_condition (by assumption)
  ·(try simp only [List.length_append, List.length_cons, List.length_nil, List.length_map]); omega
  ·assumption
 ·have h7w := h7
  have ⟨h7, h8⟩ := bor_false h7
  have h7 : (R27.isSphere base alts) = true := bnot_false h7
  have hi9 := R27.isSphere_valid h7
  have h8 : (R27.isChange base c) = true := bnot_false h8
  refine sk_ (n_ (q_ (g_ (r_ (ldN 0 (Change.enc c) Ty.ag27 Ty.sz27) (o_ (al_ Ty.ze27 fun b10 => ?_))))))
  refine o_ (stG 0 Ty.sz27 ?_)
  refine z_ (n_ (q_ (q_ (g_ (s_ (fA 0 Ty.fi27_0) (r_ (ld_ 1 Ty.sc3) (s_ (x_eql_i rfl rfl) (z_ (xk_ [4, 5, 6, 7, 8, 9, 10, 30] ?_)))))))))
  refine n_ ?_
  refine ifd (fun h11w h11 => ?_) (fun h11w h11 => ?_)
  ·refine g_ (s_ (fA 2 Ty.fi27_2) (o_ (st1 0 Ty.sz9 ?_)))
   refine z_ (n_ (q_ (g_ (r_ (ldN 0 [vI c.Kind, vI c.Id, vS [], vS c.Record, vS c.Volume] Ty.ag27 Ty.sz27) (o_ (O_buildSlice (cs := [vI c.Kind, vI c.Id, vS [], vS c.Record, vS c.Volume]) Try.underlying31 Ty.sz27 Ty.ze27 (by decide) (by decide) (by kernel_rfl) fun b12 => ?_))))))
   refine o_ (al_ Ty.ze31 fun b13 => ?_)
   refine o_ (st1 0 Ty.sz31 ?_)
   refine z_ (n_ (q_ (g_ (js_ (Value.func (.func 25) #[] #[pB b3 0]) (x_makeFunc rfl rfl) (s_ av_ (z_ (n_ (q_ (q_ (g_ (s_ (fA 0 Ty.fi27_0) (r_ (ld_ 3 Ty.sc3) (s_ (x_eql_i rfl rfl) (z_ (n_ ?_)))))))))))))))
   refine ifd (fun h14w h14 => ?_) (fun h14w h14 => ?_)
   ·refine q_ (g_ (s_ mv_ (js_ (Value.func (.func 26) #[] #[pB b13 0]) (x_makeFunc rfl rfl) ?_)))
    refine JO_call (Lown [Ent.blk b3 25 [vL altsA alts.length altsC], Ent.blk b13 31 [vL (some ⟨b12, 0, none⟩) 1 1], Ent.row (.slice (some ⟨b12, 0, none⟩) 1 1) 27 5 1 ([(Change.mk c.Kind c.Id [] c.Record c.Volume)].flatMap Change.enc)]) [Ent.blk b3 25 [vL altsA alts.length altsC], Ent.blk b13 31 [vL (some ⟨b12, 0, none⟩) 1 1], Ent.row (.slice (some ⟨b12, 0, none⟩) 1 1) 27 5 1 ([(Change.mk c.Kind c.Id [] c.Record c.Volume)].flatMap Change.enc)] [Ent.blk b10 27 [vI c.Kind, vI c.Id, vS [], vS c.Record, vS c.Volume], Ent.blk b4 27 (Change.enc c), Ent.blk b2 24 (DataSet.enc base), Ent.blk b1 70 [Value.iface 34 (vG [vL dsA ds.length dsC, pB p 0])], Ent.blk p 45 [vI b]] rfl trivial (fun _ => x_callv (first := []) (caps := [pB b3 0]) rfl Ty.ca25 rfl) (fun _ h => (((St.torow (cs := [vI c.Kind, vI c.Id, vS [], vS c.Record, vS c.Volume]) ((((((h.front 7 _ rfl).front 7 _ rfl).front 7 _ rfl).front 6 _ rfl).front 6 _ rfl).front 6 _ rfl) 5 1 rfl (by decide)).front 6 _ rfl).front 7 _ rfl).keep [true, true, true, true, true, true, true, true] rfl) lown_mem (fun w hS => f25_okA alts altsA altsC b3 b13 [(Change.mk c.Kind c.Id [] c.Record c.Volume)] (some ⟨b12, 0, none⟩) 1 1 w (altsR.on hS lown_mem) hy_ hy_ hy_ (hS.give lown_in)) ?_
    rintro _ _ ⟨e15, e16, rfl, rfl⟩
    refine z_ (n_ (q_ (g_ (r_ (ld_ 1 Ty.sc31) (s_ av_ (s_ av_ (z_ (xk_ [4, 5, 7, 8, 9, 11, 12] ?_))))))))
    refine n_ (rt_ (nr_ ?_))
    refine JX_rets [_, _] (Value.tuple #[_, _]) Try.results10 (fun w h => ⟨rfl, rfl, trivial⟩) rfl [Ent.blk p 45 [vI b], Ent.row (.slice e15 ([(Change.mk c.Kind c.Id [] c.Record c.Volume)] ++ (alts.map fun a => Change.mk 3 a.Id [] [] [])).length e16) 27 5 ([(Change.mk c.Kind c.Id [] c.Record c.Volume)] ++ (alts.map fun a => Change.mk 3 a.Id [] [] [])).length (([(Change.mk c.Kind c.Id [] c.Record c.Volume)] ++ (alts.map fun a => Change.mk 3 a.Id [] [] [])).flatMap Change.enc)] (fun _ h => ((h.front 2 _ rfl).front 7 _ rfl).keep [true, true, false, false, false, false, false, false] rfl) ⟨e15, e16, ([(Change.mk c.Kind c.Id [] c.Record c.Volume)] ++ (alts.map fun a => Change.mk 3 a.Id [] [] [])), 0, b, ?_, ?_, ?_, ?_, ?_⟩
    ·rfl
    ·rfl
    ·first
      | (exfalso; omega)
      | exact R27.qp_same (R27.pl_bad (by assumption))
      | exact R27.qp_same (R27.pl_empty (by assumption) (by assumption))
      | exact R27.qp_get (by assumption) (by assumption) (by assumption) no_such_condition (by assumption)
      | exact R27.qp_errA (by assumption) (by assumption) (by assumption) no_such_condition (by assumption) no_such_condition (by assumption)
      | exact R27.qp_okA (by assumption) (by assumption) (by assumption) no_such_condition (by assumption) no_such_condition (by assumption)
      | exact R27.qp_errB (by assumption) (by assumption) no_such_condition (by assumption)
      | exact R27.qp_okB (by assumption) (by assumption) no_such_condition (by assumption)
    ·(try simp only [List.length_append, List.length_cons, List.length_nil, List.length_map]); omega
    ·assumption
   ·refine sk_ (n_ (q_ (g_ (o_ (al_ Ty.ze9 fun b17 => ?_)))))
    refine o_ (st1 0 Ty.sz9 ?_)
    refine s_ av_ (z_ (n_ (q_ (q_ (g_ (s_ (fA 0 Ty.fi27_0) (r_ (ld_ 4 Ty.sc3) (s_ (x_neq_i rfl rfl) (z_ (xk_ [4, 5, 7, 8, 9, 11, 12, 13, 14, 44] ?_))))))))))
    refine n_ ?_
    refine ifd (fun h18w h18 => ?_) (fun h18w h18 => ?_)
    ·refine g_ (r_ (ld_ 7 Ty.sc70) (s_ (fA 0 Ty.fi24_0) (r_ (ld_ 6 Ty.sc3) (s_ (fA 2 Ty.fi27_2) (r_ (ld_ 4 Ty.sc9) ?_)))))
     refine JO_call [p] [Ent.blk p 45 [vI b]] [Ent.blk b17 9 [vS []], Ent.blk b13 31 [vL (some ⟨b12, 0, none⟩) 1 1], Ent.blk b12 27 [vI c.Kind, vI c.Id, vS [], vS c.Record, vS c.Volume], Ent.blk b10 27 [vI c.Kind, vI c.Id, vS [], vS c.Record, vS c.Volume], Ent.blk b4 27 (Change.enc c), Ent.blk b3 25 [vL altsA alts.length altsC], Ent.blk b2 24 (DataSet.enc base), Ent.blk b1 70 [Value.iface 34 (vG [vL dsA ds.length dsC, pB p 0])]] rfl trivial (fun _ => x_invoke rfl Ty.mt32 Ty.ca32 Ty.mtd rfl) (fun _ h => (((((((((h.front 7 _ rfl).front 7 _ rfl).front 7 _ rfl).front 7 _ rfl).front 7 _ rfl).front 7 _ rfl).front 7 _ rfl).front 7 _ rfl).front 8 _ rfl).keep [true, true, true, true, true, true, true, true, true] rfl) (own_mem rfl) (fun w hS => f32_okB ds dsA dsC base.Id c.Key p b w (dsR.on hS (own_mem rfl)) (fun i => (dsN i).on hS (own_mem rfl)) hy_ hy_ hy_ (hS.give (own_in rfl))) ?_
     rintro _ _ ⟨g19, ge20, e21, rfl, rfl, hf22, hf23⟩
     have ha24 := R27.qg_len (by assumption) hf22
     have ha25 := (R27.qg_code hf22)
     refine s_ mv_ (s_ (ex_ 0) (s_ (ex_ 1) (o_ (st1 1 Ty.sz9 ?_))))
     refine s_ av_ (z_ (n_ (q_ (q_ (g_ (s_ mv_ (s_ (x_neq_i rfl rfl) (s_ mv_ ?_))))))))
     refine and_ 7 ((decide (ge20 ≠ 6)) || (decide (c.Kind = 1))) (fun g26 => ?_) ?_
     ·have g26r := g26
      have g26r := of_decide_eq_true g26r
      refine sg_ g26 mv_ (sg_ g26 (x_neq_i rfl rfl) (sg_ g26 mv_ ?_))
      refine or_ 3 (decide (c.Kind = 1)) (fun g27 => ?_) ?_ (hw := by exact ⟨_, rfl, g26⟩)
      ·have g27r := g27
       have g27r := of_decide_eq_false g27r
       refine sg_ g27 (fA 0 Ty.fi27_0) (rg_ g27 (ld_ 5 Ty.sc3) (sg_ g27 (x_eql_i rfl rfl) ?_))
       exact cr_
      exact cr_
     refine z_ (xk_ [4, 7, 8, 9, 11, 12, 13, 14, 64] ?_)
     refine n_ ?_
     refine if_ (fun h28 => ?_) (fun h28 => ?_)
     ·have h28w := h28
      have ⟨h28, h29⟩ := band_true h28
      have h28 := of_decide_eq_true h28
      simp only [Bool.and_eq_true, Bool.or_eq_true, Bool.and_eq_false_iff, Bool.or_eq_false_iff, Bool.not_eq_true', Bool.not_eq_false', decide_eq_true_eq, decide_eq_false_iff_not] at h29
      refine q_ (g_ (s_ mv_ (s_ av_ (s_ av_ (z_ (n_ (rt_ (nr_ ?_))))))))
      refine JX_rets [_, _] (Value.tuple #[_, _]) Try.results10 (fun w h => ⟨rfl, rfl, trivial⟩) rfl [Ent.blk p 45 [vI e21], Ent.row (.slice none ([] : List Change).length 0) 27 5 ([] : List Change).length (([] : List Change).flatMap Change.enc)] (fun _ h => ((h.nilrow 27 5).front 1 _ rfl).keep [true, true, false, false, false, false, false, false, false, false] rfl) ⟨none, 0, ([] : List Change), ge20, e21, ?_, ?_, ?_, ?_, ?_⟩
      ·have e_x0 : (0 : Nat) = (([] : List Change).length) := by first | rfl | omega | (simp_all; done) | (simp_all; omega)
       exact congrArg (fun (x0 : Nat) => Value.tuple #[vL none x0 0, vI ge20]) e_x0
      ·rfl
      ·first
        | (exfalso; omega)
        | exact R27.qp_same (R27.pl_bad (by assumption))
        | exact R27.qp_same (R27.pl_empty (by assumption) (by assumption))
        | exact R27.qp_get (by assumption) (by assumption) (by assumption) hf22 (by assumption)
        | exact R27.qp_errA (by assumption) (by assumption) (by assumption) hf22 (by assumption) no_such_condition (by assumption)
        | exact R27.qp_okA (by assumption) (by assumption) (by assumption) hf22 (by assumption) no_such_condition (by assumption)
        | exact R27.qp_errB (by assumption) (by assumption) no_such_condition (by assumption)
        | exact R27.qp_okB (by assumption) (by assumption) no_such_condition (by assumption)
      ·(try simp only [List.length_append, List.length_cons, List.length_nil, List.length_map]); omega
      ·assumption
     ·have h28w := h28
      simp only [Bool.and_eq_true, Bool.or_eq_true, Bool.and_eq_false_iff, Bool.or_eq_false_iff, Bool.not_eq_true', Bool.not_eq_false', decide_eq_true_eq, decide_eq_false_iff_not] at h28
      refine sk_ (n_ (q_ (g_ (s_ mv_ (s_ (x_eql_i rfl rfl) (o_ (al_ Ty.ze4 fun b30 => ?_)))))))
      refine o_ (st1 0 Ty.sz4 ?_)
      refine z_ (n_ (q_ (g_ (o_ (al_ Ty.ze31 fun b31 => ?_)))))
      refine z_ (n_ (q_ (g_ (s_ mv_ (js_ (Value.func (.func 27) #[] #[pB b17 0, pB b30 0, pB b4 0, pB b13 0, pB b31 0, pB b1 0]) (x_makeFunc rfl rfl) ?_)))))
      refine JO_call (Lown [Ent.blk b3 25 [vL altsA alts.length altsC], Ent.blk b17 9 [vS g19], Ent.blk b30 4 [vB (decide (ge20 = 0))], Ent.blk b4 27 (Change.enc c), Ent.blk b13 31 [vL (some ⟨b12, 0, none⟩) 1 1], Ent.blk b31 31 [vL none 0 0], Ent.blk b1 70 [Value.iface 34 (vG [vL dsA ds.length dsC, pB p 0])], Ent.blk p 45 [vI e21], Ent.row (.slice (some ⟨b12, 0, none⟩) 1 1) 27 5 1 ([(Change.mk c.Kind c.Id [] c.Record c.Volume)].flatMap Change.enc), Ent.row (.slice none 0 0) 27 5 0 ([].flatMap Change.enc)]) [Ent.blk b3 25 [vL altsA alts.length altsC], Ent.blk b17 9 [vS g19], Ent.blk b30 4 [vB (decide (ge20 = 0))], Ent.blk b4 27 (Change.enc c), Ent.blk b13 31 [vL (some ⟨b12, 0, none⟩) 1 1], Ent.blk b31 31 [vL none 0 0], Ent.blk b1 70 [Value.iface 34 (vG [vL dsA ds.length dsC, pB p 0])], Ent.blk p 45 [vI e21], Ent.row (.slice (some ⟨b12, 0, none⟩) 1 1) 27 5 1 ([(Change.mk c.Kind c.Id [] c.Record c.Volume)].flatMap Change.enc), Ent.row (.slice none 0 0) 27 5 0 ([].flatMap Change.enc)] [Ent.blk b10 27 [vI c.Kind, vI c.Id, vS [], vS c.Record, vS c.Volume], Ent.blk b2 24 (DataSet.enc base)] rfl trivial (fun _ => x_callv (first := []) (caps := [pB b3 0]) rfl Ty.ca25 rfl) (fun _ h => (((((((((St.torow (cs := [vI c.Kind, vI c.Id, vS [], vS c.Record, vS c.Volume]) ((((h.front 9 _ rfl).front 7 _ rfl).nilrow 27 5).front 8 _ rfl) 5 1 rfl (by decide)).front 6 _ rfl).front 11 _ rfl).front 6 _ rfl).front 9 _ rfl).front 10 _ rfl).front 9 _ rfl).front 10 _ rfl).front 11 _ rfl).keep [true, true, true, true, true, true, true, true, true, true, true, true] rfl) lown_mem (fun w hS => f25_okC ds dsA dsC alts altsA altsC b3 b17 b30 b4 b13 b31 b1 [(Change.mk c.Kind c.Id [] c.Record c.Volume)] (some ⟨b12, 0, none⟩) 1 1 [] none 0 0 g19 (decide (ge20 = 0)) c p e21 w (dsR.on hS lown_mem) (fun i => (dsN i).on hS lown_mem) (altsR.on hS lown_mem) hy_ hy_ hy_ hy_ hy_ hy_ hy_ hy_ hy_ hy_ hy_ (hS.give lown_in)) ?_
      rintro _ _ ⟨e32, e33, e34, e35, zs36, us37, e38, e39, rfl, rfl, hf40, hf41, hf42, hf43⟩
      try simp only [List.length_cons, List.length_nil, Nat.zero_add, Nat.reduceAdd] at hf41
      try simp only [List.length_cons, List.length_nil, Nat.zero_add, Nat.reduceAdd] at hf42
      refine s_ av_ (z_ (n_ (q_ (q_ (g_ (s_ mv_ (s_ (x_neq_i rfl rfl) (z_ (n_ ?_)))))))))
      refine ifd (fun h44w h44 => ?_) (fun h44w h44 => ?_)
      ·refine q_ (g_ (s_ mv_ (s_ av_ (s_ av_ (z_ (n_ (rt_ (nr_ ?_))))))))
       refine JX_rets [_, _] (Value.tuple #[_, _]) Try.results10 (fun w h => ⟨rfl, rfl, trivial⟩) rfl [Ent.blk p 45 [vI e39], Ent.row (.slice none ([] : List Change).length 0) 27 5 ([] : List Change).length (([] : List Change).flatMap Change.enc)] (fun _ h => ((h.nilrow 27 5).front 8 _ rfl).keep [true, true, false, false, false, false, false, false, false, false, false, false, false] rfl) ⟨none, 0, ([] : List Change), e38, e39, ?_, ?_, ?_, ?_, ?_⟩
       ·have e_x0 : (0 : Nat) = (([] : List Change).length) := by first | rfl | omega | (simp_all; done) | (simp_all; omega)
        exact congrArg (fun (x0 : Nat) => Value.tuple #[vL none x0 0, vI e38]) e_x0
       ·rfl
       ·first
         | (exfalso; omega)
         | exact R27.qp_same (R27.pl_bad (by assumption))
         | exact R27.qp_same (R27.pl_empty (by assumption) (by assumption))
         | exact R27.qp_get (by assumption) (by assumption) (by assumption) hf22 (by assumption)
         | exact R27.qp_errA (by assumption) (by assumption) (by assumption) hf22 (by assumption) hf40 (by assumption)
         | exact R27.qp_okA (by assumption) (by assumption) (by assumption) hf22 (by assumption) hf40 (by assumption)
         | exact R27.qp_errB (by assumption) (by assumption) hf40 (by assumption)
         | exact R27.qp_okB (by assumption) (by assumption) hf40 (by assumption)
       ·(try simp only [List.length_append, List.length_cons, List.length_nil, List.length_map]); omega
       ·assumption
      ·refine sk_ (n_ (q_ (g_ (r_ (ld_ 4 Ty.sc31) (r_ (ld_ 5 Ty.sc31) (o_ (O_append_f 8 Change.enc 5 zs36 us37 Try.underlying31 Ty.sz27 Ty.by27 Ty.ze27 rfl (by decide) rfl rfl rfl rfl Change.enc_len Change.enc_one (cells_row 9 rfl) lt_ lt_ fun A45 c46 => ?_)))))))
       refine s_ av_ (s_ av_ (z_ (xk_ [8, 9] ?_)))
       refine n_ (rt_ ?_)
       refine JX_rets [_, _] (Value.tuple #[_, _]) Try.results10 (fun w h => ⟨rfl, rfl, trivial⟩) rfl _ (fun _ h => h.keep [false, false, false, false, false, false, false, true, true, false, false, false] rfl) ⟨A45, c46, zs36 ++ us37, 0, e39, ?_, ?_, ?_, ?_, ?_⟩
       ·rfl
       ·rfl
       ·first
         | (exfalso; omega)
         | exact R27.qp_same (R27.pl_bad (by assumption))
         | exact R27.qp_same (R27.pl_empty (by assumption) (by assumption))
         | exact R27.qp_get (by assumption) (by assumption) (by assumption) hf22 (by assumption)
         | exact R27.qp_errA (by assumption) (by assumption) (by assumption) hf22 (by assumption) hf40 (by assumption)
         | exact R27.qp_okA (by assumption) (by assumption) (by assumption) hf22 (by assumption) hf40 (by assumption)
         | exact R27.qp_errB (by assumption) (by assumption) hf40 (by assumption)
         | exact R27.qp_okB (by assumption) (by assumption) hf40 (by assumption)
       ·(try simp only [List.length_append, List.length_cons, List.length_nil, List.length_map]); omega
       ·assumption
    ·refine sk_ (n_ (q_ (q_ (g_ (s_ mv_ (jr_ (vB true) (s_ mv_ (sg_ rfl mv_ (jg_ rfl (vB false) (rfl) (sg_ rfl mv_ (sg_ rfl (fA 0 Ty.fi27_0) (rg_ rfl (ld_ 4 Ty.sc3) (sg_ rfl (x_eql_i rfl rfl) ?_)))))))))))))
     refine jg_ rfl (vB (decide (c.Kind = 1))) (rfl) (jr_ (vB (decide (c.Kind = 1))) (z_ (xk_ [4, 7, 8, 9, 11, 12, 13, 14, 64] ?_)))
     refine n_ ?_
     refine ifd (fun h47w h47 => ?_) (fun h47w h47 => ?_)
     ·refine q_ (g_ (s_ mv_ (s_ av_ (s_ av_ (z_ (n_ (rt_ (nr_ ?_))))))))
      refine JX_rets [_, _] (Value.tuple #[_, _]) Try.results10 (fun w h => ⟨rfl, rfl, trivial⟩) rfl [Ent.blk p 45 [vI b], Ent.row (.slice none ([] : List Change).length 0) 27 5 ([] : List Change).length (([] : List Change).flatMap Change.enc)] (fun _ h => ((h.nilrow 27 5).front 9 _ rfl).keep [true, true, false, false, false, false, false, false, false, false] rfl) ⟨none, 0, ([] : List Change), 6, b, ?_, ?_, ?_, ?_, ?_⟩
      ·have e_x0 : (0 : Nat) = (([] : List Change).length) := by first | rfl | omega | (simp_all; done) | (simp_all; omega)
       exact congrArg (fun (x0 : Nat) => Value.tuple #[vL none x0 0, vI 6]) e_x0
      ·rfl
      ·first
        | (exfalso; omega)
        | exact R27.qp_same (R27.pl_bad (by assumption))
        | exact R27.qp_same (R27.pl_empty (by assumption) (by assumption))
        | exact R27.qp_get (by assumption) (by assumption) (by assumption) no_such_condition (by assumption)
        | exact R27.qp_errA (by assumption) (by assumption) (by assumption) no_such_condition (by assumption) no_such_condition (by assumption)
        | exact R27.qp_okA (by assumption) (by assumption) (by assumption) no_such_condition (by assumption) no_such_condition (by assumption)
        | exact R27.qp_errB (by assumption) (by assumption) no_such_condition (by assumption)
        | exact R27.qp_okB (by assumption) (by assumption) no_such_condition (by assumption)
      ·(try simp only [List.length_append, List.length_cons, List.length_nil, List.length_map]); omega
      ·assumption
     ·refine sk_ (n_ (q_ (g_ (s_ mv_ (jr_ (vB false) (o_ (al_ Ty.ze4 fun b48 => ?_)))))))
      refine o_ (st1 0 Ty.sz4 ?_)
      refine z_ (n_ (q_ (g_ (o_ (al_ Ty.ze31 fun b49 => ?_)))))
      refine z_ (n_ (q_ (g_ (s_ mv_ (js_ (Value.func (.func 27) #[] #[pB b17 0, pB b48 0, pB b4 0, pB b13 0, pB b49 0, pB b1 0]) (x_makeFunc rfl rfl) ?_)))))
      refine JO_call (Lown [Ent.blk b3 25 [vL altsA alts.length altsC], Ent.blk b17 9 [vS []], Ent.blk b48 4 [vB false], Ent.blk b4 27 (Change.enc c), Ent.blk b13 31 [vL (some ⟨b12, 0, none⟩) 1 1], Ent.blk b49 31 [vL none 0 0], Ent.blk b1 70 [Value.iface 34 (vG [vL dsA ds.length dsC, pB p 0])], Ent.blk p 45 [vI b], Ent.row (.slice (some ⟨b12, 0, none⟩) 1 1) 27 5 1 ([(Change.mk c.Kind c.Id [] c.Record c.Volume)].flatMap Change.enc), Ent.row (.slice none 0 0) 27 5 0 ([].flatMap Change.enc)]) [Ent.blk b3 25 [vL altsA alts.length altsC], Ent.blk b17 9 [vS []], Ent.blk b48 4 [vB false], Ent.blk b4 27 (Change.enc c), Ent.blk b13 31 [vL (some ⟨b12, 0, none⟩) 1 1], Ent.blk b49 31 [vL none 0 0], Ent.blk b1 70 [Value.iface 34 (vG [vL dsA ds.length dsC, pB p 0])], Ent.blk p 45 [vI b], Ent.row (.slice (some ⟨b12, 0, none⟩) 1 1) 27 5 1 ([(Change.mk c.Kind c.Id [] c.Record c.Volume)].flatMap Change.enc), Ent.row (.slice none 0 0) 27 5 0 ([].flatMap Change.enc)] [Ent.blk b10 27 [vI c.Kind, vI c.Id, vS [], vS c.Record, vS c.Volume], Ent.blk b2 24 (DataSet.enc base)] rfl trivial (fun _ => x_callv (first := []) (caps := [pB b3 0]) rfl Ty.ca25 rfl) (fun _ h => (((((((((St.torow (cs := [vI c.Kind, vI c.Id, vS [], vS c.Record, vS c.Volume]) ((((h.front 8 _ rfl).front 6 _ rfl).nilrow 27 5).front 7 _ rfl) 5 1 rfl (by decide)).front 11 _ rfl).front 11 _ rfl).front 6 _ rfl).front 9 _ rfl).front 10 _ rfl).front 9 _ rfl).front 10 _ rfl).front 11 _ rfl).keep [true, true, true, true, true, true, true, true, true, true, true, true] rfl) lown_mem (fun w hS => f25_okC ds dsA dsC alts altsA altsC b3 b17 b48 b4 b13 b49 b1 [(Change.mk c.Kind c.Id [] c.Record c.Volume)] (some ⟨b12, 0, none⟩) 1 1 [] none 0 0 [] false c p b w (dsR.on hS lown_mem) (fun i => (dsN i).on hS lown_mem) (altsR.on hS lown_mem) hy_ hy_ hy_ hy_ hy_ hy_ hy_ hy_ hy_ hy_ hy_ (hS.give lown_in)) ?_
      rintro _ _ ⟨e50, e51, e52, e53, zs54, us55, e56, e57, rfl, rfl, hf58, hf59, hf60, hf61⟩
      try simp only [List.length_cons, List.length_nil, Nat.zero_add, Nat.reduceAdd] at hf59
      try simp only [List.length_cons, List.length_nil, Nat.zero_add, Nat.reduceAdd] at hf60
      refine s_ av_ (z_ (n_ (q_ (q_ (g_ (s_ mv_ (s_ (x_neq_i rfl rfl) (z_ (n_ ?_)))))))))
      refine ifd (fun h62w h62 => ?_) (fun h62w h62 => ?_)
      ·refine q_ (g_ (s_ mv_ (s_ av_ (s_ av_ (z_ (n_ (rt_ (nr_ ?_))))))))
       refine JX_rets [_, _] (Value.tuple #[_, _]) Try.results10 (fun w h => ⟨rfl, rfl, trivial⟩) rfl [Ent.blk p 45 [vI e57], Ent.row (.slice none ([] : List Change).length 0) 27 5 ([] : List Change).length (([] : List Change).flatMap Change.enc)] (fun _ h => ((h.nilrow 27 5).front 8 _ rfl).keep [true, true, false, false, false, false, false, false, false, false, false, false, false] rfl) ⟨none, 0, ([] : List Change), e56, e57, ?_, ?_, ?_, ?_, ?_⟩
       ·have e_x0 : (0 : Nat) = (([] : List Change).length) := by first | rfl | omega | (simp_all; done) | (simp_all; omega)
        exact congrArg (fun (x0 : Nat) => Value.tuple #[vL none x0 0, vI e56]) e_x0
       ·rfl
       ·first
         | (exfalso; omega)
         | exact R27.qp_same (R27.pl_bad (by assumption))
         | exact R27.qp_same (R27.pl_empty (by assumption) (by assumption))
         | exact R27.qp_get (by assumption) (by assumption) (by assumption) no_such_condition (by assumption)
         | exact R27.qp_errA (by assumption) (by assumption) (by assumption) no_such_condition (by assumption) hf58 (by assumption)
         | exact R27.qp_okA (by assumption) (by assumption) (by assumption) no_such_condition (by assumption) hf58 (by assumption)
         | exact R27.qp_errB (by assumption) (by assumption) hf58 (by assumption)
         | exact R27.qp_okB (by assumption) (by assumption) hf58 (by assumption)
       ·(try simp only [List.length_append, List.length_cons, List.length_nil, List.length_map]); omega
       ·assumption
      ·refine sk_ (n_ (q_ (g_ (r_ (ld_ 4 Ty.sc31) (r_ (ld_ 5 Ty.sc31) (o_ (O_append_f 8 Change.enc 5 zs54 us55 Try.underlying31 Ty.sz27 Ty.by27 Ty.ze27 rfl (by decide) rfl rfl rfl rfl Change.enc_len Change.enc_one (cells_row 9 rfl) lt_ lt_ fun A63 c64 => ?_)))))))
       refine s_ av_ (s_ av_ (z_ (xk_ [8, 9] ?_)))
       refine n_ (rt_ ?_)
       refine JX_rets [_, _] (Value.tuple #[_, _]) Try.results10 (fun w h => ⟨rfl, rfl, trivial⟩) rfl _ (fun _ h => h.keep [false, false, false, false, false, false, false, true, true, false, false, false] rfl) ⟨A63, c64, zs54 ++ us55, 0, e57, ?_, ?_, ?_, ?_, ?_⟩
       ·rfl
       ·rfl
       ·first
         | (exfalso; omega)
         | exact R27.qp_same (R27.pl_bad (by assumption))
         | exact R27.qp_same (R27.pl_empty (by assumption) (by assumption))
         | exact R27.qp_get (by assumption) (by assumption) (by assumption) no_such_condition (by assumption)
         | exact R27.qp_errA (by assumption) (by assumption) (by assumption) no_such_condition (by assumption) hf58 (by assumption)
         | exact R27.qp_okA (by assumption) (by assumption) (by assumption) no_such_condition (by assumption) hf58 (by assumption)
         | exact R27.qp_errB (by assumption) (by assumption) hf58 (by assumption)
         | exact R27.qp_okB (by assumption) (by assumption) hf58 (by assumption)
       ·(try simp only [List.length_append, List.length_cons, List.length_nil, List.length_map]); omega
       ·assumption
  ·refine sk_ (n_ (q_ (g_ (r_ (ldN 0 (Change.enc c) Ty.ag27 Ty.sz27) (o_ (O_buildSlice (cs := (Change.enc c)) Try.underlying31 Ty.sz27 Ty.ze27 (by decide) (by decide) (by kernel_rfl) fun b65 => ?_))))))
   refine o_ (al_ Ty.ze31 fun b66 => ?_)
   refine o_ (st1 0 Ty.sz31 ?_)
   refine z_ (n_ (q_ (g_ (js_ (Value.func (.func 25) #[] #[pB b3 0]) (x_makeFunc rfl rfl) (s_ av_ (z_ (n_ (q_ (q_ (g_ (s_ (fA 0 Ty.fi27_0) (r_ (ld_ 3 Ty.sc3) (s_ (x_eql_i rfl rfl) (z_ (n_ ?_)))))))))))))))
   refine ifd (fun h67w h67 => ?_) (fun h67w h67 => ?_)
   ·refine q_ (g_ (s_ mv_ (js_ (Value.func (.func 26) #[] #[pB b66 0]) (x_makeFunc rfl rfl) ?_)))
    refine JO_call (Lown [Ent.blk b3 25 [vL altsA alts.length altsC], Ent.blk b66 31 [vL (some ⟨b65, 0, none⟩) 1 1], Ent.row (.slice (some ⟨b65, 0, none⟩) 1 1) 27 5 1 ([c].flatMap Change.enc)]) [Ent.blk b3 25 [vL altsA alts.length altsC], Ent.blk b66 31 [vL (some ⟨b65, 0, none⟩) 1 1], Ent.row (.slice (some ⟨b65, 0, none⟩) 1 1) 27 5 1 ([c].flatMap Change.enc)] [Ent.blk b10 27 (Change.enc c), Ent.blk b4 27 (Change.enc c), Ent.blk b2 24 (DataSet.enc base), Ent.blk b1 70 [Value.iface 34 (vG [vL dsA ds.length dsC, pB p 0])], Ent.blk p 45 [vI b]] rfl trivial (fun _ => x_callv (first := []) (caps := [pB b3 0]) rfl Ty.ca25 rfl) (fun _ h => (((St.torow (cs := [vI c.Kind, vI c.Id, vS c.Key, vS c.Record, vS c.Volume]) ((((((h.front 7 _ rfl).front 7 _ rfl).front 7 _ rfl).front 6 _ rfl).front 6 _ rfl).front 6 _ rfl) 5 1 rfl (by decide)).front 6 _ rfl).front 7 _ rfl).keep [true, true, true, true, true, true, true, true] rfl) lown_mem (fun w hS => f25_okA alts altsA altsC b3 b66 [c] (some ⟨b65, 0, none⟩) 1 1 w (altsR.on hS lown_mem) hy_ hy_ hy_ (hS.give lown_in)) ?_
    rintro _ _ ⟨e68, e69, rfl, rfl⟩
    refine z_ (n_ (q_ (g_ (r_ (ld_ 1 Ty.sc31) (s_ av_ (s_ av_ (z_ (n_ (rt_ (nr_ ?_))))))))))
    refine JX_rets [_, _] (Value.tuple #[_, _]) Try.results10 (fun w h => ⟨rfl, rfl, trivial⟩) rfl [Ent.blk p 45 [vI b], Ent.row (.slice e68 ([c] ++ (alts.map fun a => Change.mk 3 a.Id [] [] [])).length e69) 27 5 ([c] ++ (alts.map fun a => Change.mk 3 a.Id [] [] [])).length (([c] ++ (alts.map fun a => Change.mk 3 a.Id [] [] [])).flatMap Change.enc)] (fun _ h => ((h.front 2 _ rfl).front 7 _ rfl).keep [true, true, false, false, false, false, false, false] rfl) ⟨e68, e69, ([c] ++ (alts.map fun a => Change.mk 3 a.Id [] [] [])), 0, b, ?_, ?_, ?_, ?_, ?_⟩
    ·rfl
    ·rfl
    ·first
      | (exfalso; omega)
      | exact R27.qp_same (R27.pl_bad (by assumption))
      | exact R27.qp_same (R27.pl_empty (by assumption) (by assumption))
      | exact R27.qp_get (by assumption) (by assumption) (by assumption) no_such_condition (by assumption)
      | exact R27.qp_errA (by assumption) (by assumption) (by assumption) no_such_condition (by assumption) no_such_condition (by assumption)
      | exact R27.qp_okA (by assumption) (by assumption) (by assumption) no_such_condition (by assumption) no_such_condition (by assumption)
      | exact R27.qp_errB (by assumption) (by assumption) no_such_condition (by assumption)
      | exact R27.qp_okB (by assumption) (by assumption) no_such_condition (by assumption)
    ·(try simp only [List.length_append, List.length_cons, List.length_nil, List.length_map]); omega
    ·assumption
   ·refine sk_ (n_ (q_ (g_ (o_ (al_ Ty.ze9 fun b70 => ?_)))))
    refine o_ (st1 0 Ty.sz9 ?_)
    refine s_ av_ (z_ (n_ (q_ (q_ (g_ (s_ (fA 0 Ty.fi27_0) (r_ (ld_ 4 Ty.sc3) (s_ (x_neq_i rfl rfl) (z_ (xk_ [4, 5, 7, 8, 9, 11, 12, 13, 14, 44] ?_))))))))))
    refine n_ ?_
    refine ifd (fun h71w h71 => ?_) (fun h71w h71 => ?_)
    ·refine g_ (r_ (ld_ 7 Ty.sc70) (s_ (fA 0 Ty.fi24_0) (r_ (ld_ 6 Ty.sc3) (s_ (fA 2 Ty.fi27_2) (r_ (ld_ 4 Ty.sc9) ?_)))))
     refine JO_call [p] [Ent.blk p 45 [vI b]] [Ent.blk b70 9 [vS []], Ent.blk b66 31 [vL (some ⟨b65, 0, none⟩) 1 1], Ent.blk b65 27 (Change.enc c), Ent.blk b10 27 (Change.enc c), Ent.blk b4 27 (Change.enc c), Ent.blk b3 25 [vL altsA alts.length altsC], Ent.blk b2 24 (DataSet.enc base), Ent.blk b1 70 [Value.iface 34 (vG [vL dsA ds.length dsC, pB p 0])]] rfl trivial (fun _ => x_invoke rfl Ty.mt32 Ty.ca32 Ty.mtd rfl) (fun _ h => (((((((((h.front 7 _ rfl).front 7 _ rfl).front 7 _ rfl).front 7 _ rfl).front 7 _ rfl).front 7 _ rfl).front 7 _ rfl).front 7 _ rfl).front 8 _ rfl).keep [true, true, true, true, true, true, true, true, true] rfl) (own_mem rfl) (fun w hS => f32_okB ds dsA dsC base.Id c.Key p b w (dsR.on hS (own_mem rfl)) (fun i => (dsN i).on hS (own_mem rfl)) hy_ hy_ hy_ (hS.give (own_in rfl))) ?_
     rintro _ _ ⟨g72, ge73, e74, rfl, rfl, hf75, hf76⟩
     have ha77 := R27.qg_len (by assumption) hf75
     have ha78 := (R27.qg_code hf75)
     refine s_ mv_ (s_ (ex_ 0) (s_ (ex_ 1) (o_ (st1 1 Ty.sz9 ?_))))
     refine s_ av_ (z_ (n_ (q_ (q_ (g_ (s_ mv_ (s_ (x_neq_i rfl rfl) (s_ mv_ ?_))))))))
     refine and_ 7 ((decide (ge73 ≠ 6)) || (decide (c.Kind = 1))) (fun g79 => ?_) ?_
     ·have g79r := g79
      have g79r := of_decide_eq_true g79r
      refine sg_ g79 mv_ (sg_ g79 (x_neq_i rfl rfl) (sg_ g79 mv_ ?_))
      refine or_ 3 (decide (c.Kind = 1)) (fun g80 => ?_) ?_ (hw := by exact ⟨_, rfl, g79⟩)
      ·have g80r := g80
       have g80r := of_decide_eq_false g80r
       refine sg_ g80 (fA 0 Ty.fi27_0) (rg_ g80 (ld_ 5 Ty.sc3) (sg_ g80 (x_eql_i rfl rfl) ?_))
       exact cr_
      exact cr_
     refine z_ (xk_ [4, 7, 8, 9, 11, 12, 13, 14, 64] ?_)
     refine n_ ?_
     refine if_ (fun h81 => ?_) (fun h81 => ?_)
     ·have h81w := h81
      have ⟨h81, h82⟩ := band_true h81
      have h81 := of_decide_eq_true h81
      simp only [Bool.and_eq_true, Bool.or_eq_true, Bool.and_eq_false_iff, Bool.or_eq_false_iff, Bool.not_eq_true', Bool.not_eq_false', decide_eq_true_eq, decide_eq_false_iff_not] at h82
      refine q_ (g_ (s_ mv_ (s_ av_ (s_ av_ (z_ (n_ (rt_ (nr_ ?_))))))))
      refine JX_rets [_, _] (Value.tuple #[_, _]) Try.results10 (fun w h => ⟨rfl, rfl, trivial⟩) rfl [Ent.blk p 45 [vI e74], Ent.row (.slice none ([] : List Change).length 0) 27 5 ([] : List Change).length (([] : List Change).flatMap Change.enc)] (fun _ h => ((h.nilrow 27 5).front 1 _ rfl).keep [true, true, false, false, false, false, false, false, false, false] rfl) ⟨none, 0, ([] : List Change), ge73, e74, ?_, ?_, ?_, ?_, ?_⟩
      ·have e_x0 : (0 : Nat) = (([] : List Change).length) := by first | rfl | omega | (simp_all; done) | (simp_all; omega)
       exact congrArg (fun (x0 : Nat) => Value.tuple #[vL none x0 0, vI ge73]) e_x0
      ·rfl
      ·first
        | (exfalso; omega)
        | exact R27.qp_same (R27.pl_bad (by assumption))
        | exact R27.qp_same (R27.pl_empty (by assumption) (by assumption))
        | exact R27.qp_get (by assumption) (by assumption) (by assumption) hf75 (by assumption)
        | exact R27.qp_errA (by assumption) (by assumption) (by assumption) hf75 (by assumption) no_such_condition (by assumption)
        | exact R27.qp_okA (by assumption) (by assumption) (by assumption) hf75 (by assumption) no_such_condition (by assumption)
        | exact R27.qp_errB (by assumption) (by assumption) no_such_condition (by assumption)
        | exact R27.qp_okB (by assumption) (by assumption) no_such_condition (by assumption)
      ·(try simp only [List.length_append, List.length_cons, List.length_nil, List.length_map]); omega
      ·assumption
     ·have h81w := h81
      simp only [Bool.and_eq_true, Bool.or_eq_true, Bool.and_eq_false_iff, Bool.or_eq_false_iff, Bool.not_eq_true', Bool.not_eq_false', decide_eq_true_eq, decide_eq_false_iff_not] at h81
      refine sk_ (n_ (q_ (g_ (s_ mv_ (s_ (x_eql_i rfl rfl) (o_ (al_ Ty.ze4 fun b83 => ?_)))))))
      refine o_ (st1 0 Ty.sz4 ?_)
      refine z_ (n_ (q_ (g_ (o_ (al_ Ty.ze31 fun b84 => ?_)))))
      refine z_ (n_ (q_ (g_ (s_ mv_ (js_ (Value.func (.func 27) #[] #[pB b70 0, pB b83 0, pB b4 0, pB b66 0, pB b84 0, pB b1 0]) (x_makeFunc rfl rfl) ?_)))))
      refine JO_call (Lown [Ent.blk b3 25 [vL altsA alts.length altsC], Ent.blk b70 9 [vS g72], Ent.blk b83 4 [vB (decide (ge73 = 0))], Ent.blk b4 27 (Change.enc c), Ent.blk b66 31 [vL (some ⟨b65, 0, none⟩) 1 1], Ent.blk b84 31 [vL none 0 0], Ent.blk b1 70 [Value.iface 34 (vG [vL dsA ds.length dsC, pB p 0])], Ent.blk p 45 [vI e74], Ent.row (.slice (some ⟨b65, 0, none⟩) 1 1) 27 5 1 ([c].flatMap Change.enc), Ent.row (.slice none 0 0) 27 5 0 ([].flatMap Change.enc)]) [Ent.blk b3 25 [vL altsA alts.length altsC], Ent.blk b70 9 [vS g72], Ent.blk b83 4 [vB (decide (ge73 = 0))], Ent.blk b4 27 (Change.enc c), Ent.blk b66 31 [vL (some ⟨b65, 0, none⟩) 1 1], Ent.blk b84 31 [vL none 0 0], Ent.blk b1 70 [Value.iface 34 (vG [vL dsA ds.length dsC, pB p 0])], Ent.blk p 45 [vI e74], Ent.row (.slice (some ⟨b65, 0, none⟩) 1 1) 27 5 1 ([c].flatMap Change.enc), Ent.row (.slice none 0 0) 27 5 0 ([].flatMap Change.enc)] [Ent.blk b10 27 (Change.enc c), Ent.blk b2 24 (DataSet.enc base)] rfl trivial (fun _ => x_callv (first := []) (caps := [pB b3 0]) rfl Ty.ca25 rfl) (fun _ h => (((((((((St.torow (cs := [vI c.Kind, vI c.Id, vS c.Key, vS c.Record, vS c.Volume]) ((((h.front 9 _ rfl).front 7 _ rfl).nilrow 27 5).front 8 _ rfl) 5 1 rfl (by decide)).front 6 _ rfl).front 11 _ rfl).front 6 _ rfl).front 9 _ rfl).front 10 _ rfl).front 9 _ rfl).front 10 _ rfl).front 11 _ rfl).keep [true, true, true, true, true, true, true, true, true, true, true, true] rfl) lown_mem (fun w hS => f25_okC ds dsA dsC alts altsA altsC b3 b70 b83 b4 b66 b84 b1 [c] (some ⟨b65, 0, none⟩) 1 1 [] none 0 0 g72 (decide (ge73 = 0)) c p e74 w (dsR.on hS lown_mem) (fun i => (dsN i).on hS lown_mem) (altsR.on hS lown_mem) hy_ hy_ hy_ hy_ hy_ hy_ hy_ hy_ hy_ hy_ hy_ (hS.give lown_in)) ?_
      rintro _ _ ⟨e85, e86, e87, e88, zs89, us90, e91, e92, rfl, rfl, hf93, hf94, hf95, hf96⟩
      try simp only [List.length_cons, List.length_nil, Nat.zero_add, Nat.reduceAdd] at hf94
      try simp only [List.length_cons, List.length_nil, Nat.zero_add, Nat.reduceAdd] at hf95
      refine s_ av_ (z_ (n_ (q_ (q_ (g_ (s_ mv_ (s_ (x_neq_i rfl rfl) (z_ (n_ ?_)))))))))
      refine ifd (fun h97w h97 => ?_) (fun h97w h97 => ?_)
      ·refine q_ (g_ (s_ mv_ (s_ av_ (s_ av_ (z_ (n_ (rt_ (nr_ ?_))))))))
       refine JX_rets [_, _] (Value.tuple #[_, _]) Try.results10 (fun w h => ⟨rfl, rfl, trivial⟩) rfl [Ent.blk p 45 [vI e92], Ent.row (.slice none ([] : List Change).length 0) 27 5 ([] : List Change).length (([] : List Change).flatMap Change.enc)] (fun _ h => ((h.nilrow 27 5).front 8 _ rfl).keep [true, true, false, false, false, false, false, false, false, false, false, false, false] rfl) ⟨none, 0, ([] : List Change), e91, e92, ?_, ?_, ?_, ?_, ?_⟩
       ·have e_x0 : (0 : Nat) = (([] : List Change).length) := by first | rfl | omega | (simp_all; done) | (simp_all; omega)
        exact congrArg (fun (x0 : Nat) => Value.tuple #[vL none x0 0, vI e91]) e_x0
       ·rfl
       ·first
         | (exfalso; omega)
         | exact R27.qp_same (R27.pl_bad (by assumption))
         | exact R27.qp_same (R27.pl_empty (by assumption) (by assumption))
         | exact R27.qp_get (by assumption) (by assumption) (by assumption) hf75 (by assumption)
         | exact R27.qp_errA (by assumption) (by assumption) (by assumption) hf75 (by assumption) hf93 (by assumption)
         | exact R27.qp_okA (by assumption) (by assumption) (by assumption) hf75 (by assumption) hf93 (by assumption)
         | exact R27.qp_errB (by assumption) (by assumption) hf93 (by assumption)
         | exact R27.qp_okB (by assumption) (by assumption) hf93 (by assumption)
       ·(try simp only [List.length_append, List.length_cons, List.length_nil, List.length_map]); omega
       ·assumption
      ·refine sk_ (n_ (q_ (g_ (r_ (ld_ 4 Ty.sc31) (r_ (ld_ 5 Ty.sc31) (o_ (O_append_f 8 Change.enc 5 zs89 us90 Try.underlying31 Ty.sz27 Ty.by27 Ty.ze27 rfl (by decide) rfl rfl rfl rfl Change.enc_len Change.enc_one (cells_row 9 rfl) lt_ lt_ fun A98 c99 => ?_)))))))
       refine s_ av_ (s_ av_ (z_ (xk_ [8, 9] ?_)))
       refine n_ (rt_ ?_)
       refine JX_rets [_, _] (Value.tuple #[_, _]) Try.results10 (fun w h => ⟨rfl, rfl, trivial⟩) rfl _ (fun _ h => h.keep [false, false, false, false, false, false, false, true, true, false, false, false] rfl) ⟨A98, c99, zs89 ++ us90, 0, e92, ?_, ?_, ?_, ?_, ?_⟩
       ·rfl
       ·rfl
       ·first
         | (exfalso; omega)
         | exact R27.qp_same (R27.pl_bad (by assumption))
         | exact R27.qp_same (R27.pl_empty (by assumption) (by assumption))
         | exact R27.qp_get (by assumption) (by assumption) (by assumption) hf75 (by assumption)
         | exact R27.qp_errA (by assumption) (by assumption) (by assumption) hf75 (by assumption) hf93 (by assumption)
         | exact R27.qp_okA (by assumption) (by assumption) (by assumption) hf75 (by assumption) hf93 (by assumption)
         | exact R27.qp_errB (by assumption) (by assumption) hf93 (by assumption)
         | exact R27.qp_okB (by assumption) (by assumption) hf93 (by assumption)
       ·(try simp only [List.length_append, List.length_cons, List.length_nil, List.length_map]); omega
       ·assumption
    ·refine sk_ (n_ (q_ (q_ (g_ (s_ mv_ (jr_ (vB true) (s_ mv_ (sg_ rfl mv_ (jg_ rfl (vB false) (rfl) (sg_ rfl mv_ (sg_ rfl (fA 0 Ty.fi27_0) (rg_ rfl (ld_ 4 Ty.sc3) (sg_ rfl (x_eql_i rfl rfl) ?_)))))))))))))
     refine jg_ rfl (vB (decide (c.Kind = 1))) (rfl) (jr_ (vB (decide (c.Kind = 1))) (z_ (xk_ [4, 7, 8, 9, 11, 12, 13, 14, 64] ?_)))
     refine n_ ?_
     refine ifd (fun h100w h100 => ?_) (fun h100w h100 => ?_)
     ·refine q_ (g_ (s_ mv_ (s_ av_ (s_ av_ (z_ (n_ (rt_ (nr_ ?_))))))))
      refine JX_rets [_, _] (Value.tuple #[_, _]) Try.results10 (fun w h => ⟨rfl, rfl, trivial⟩) rfl [Ent.blk p 45 [vI b], Ent.row (.slice none ([] : List Change).length 0) 27 5 ([] : List Change).length (([] : List Change).flatMap Change.enc)] (fun _ h => ((h.nilrow 27 5).front 9 _ rfl).keep [true, true, false, false, false, false, false, false, false, false] rfl) ⟨none, 0, ([] : List Change), 6, b, ?_, ?_, ?_, ?_, ?_⟩
      ·have e_x0 : (0 : Nat) = (([] : List Change).length) := by first | rfl | omega | (simp_all; done) | (simp_all; omega)
       exact congrArg (fun (x0 : Nat) => Value.tuple #[vL none x0 0, vI 6]) e_x0
      ·rfl
      ·first
        | (exfalso; omega)
        | exact R27.qp_same (R27.pl_bad (by assumption))
        | exact R27.qp_same (R27.pl_empty (by assumption) (by assumption))
        | exact R27.qp_get (by assumption) (by assumption) (by assumption) no_such_condition (by assumption)
        | exact R27.qp_errA (by assumption) (by assumption) (by assumption) no_such_condition (by assumption) no_such_condition (by assumption)
        | exact R27.qp_okA (by assumption) (by assumption) (by assumption) no_such_condition (by assumption) no_such_condition (by assumption)
        | exact R27.qp_errB (by assumption) (by assumption) no_such_condition (by assumption)
        | exact R27.qp_okB (by assumption) (by assumption) no_such_condition (by assumption)
      ·(try simp only [List.length_append, List.length_cons, List.length_nil, List.length_map]); omega
      ·assumption
     ·refine sk_ (n_ (q_ (g_ (s_ mv_ (jr_ (vB false) (o_ (al_ Ty.ze4 fun b101 => ?_)))))))
      refine o_ (st1 0 Ty.sz4 ?_)
      refine z_ (n_ (q_ (g_ (o_ (al_ Ty.ze31 fun b102 => ?_)))))
      refine z_ (n_ (q_ (g_ (s_ mv_ (js_ (Value.func (.func 27) #[] #[pB b70 0, pB b101 0, pB b4 0, pB b66 0, pB b102 0, pB b1 0]) (x_makeFunc rfl rfl) ?_)))))
      refine JO_call (Lown [Ent.blk b3 25 [vL altsA alts.length altsC], Ent.blk b70 9 [vS []], Ent.blk b101 4 [vB false], Ent.blk b4 27 (Change.enc c), Ent.blk b66 31 [vL (some ⟨b65, 0, none⟩) 1 1], Ent.blk b102 31 [vL none 0 0], Ent.blk b1 70 [Value.iface 34 (vG [vL dsA ds.length dsC, pB p 0])], Ent.blk p 45 [vI b], Ent.row (.slice (some ⟨b65, 0, none⟩) 1 1) 27 5 1 ([c].flatMap Change.enc), Ent.row (.slice none 0 0) 27 5 0 ([].flatMap Change.enc)]) [Ent.blk b3 25 [vL altsA alts.length altsC], Ent.blk b70 9 [vS []], Ent.blk b101 4 [vB false], Ent.blk b4 27 (Change.enc c), Ent.blk b66 31 [vL (some ⟨b65, 0, none⟩) 1 1], Ent.blk b102 31 [vL none 0 0], Ent.blk b1 70 [Value.iface 34 (vG [vL dsA ds.length dsC, pB p 0])], Ent.blk p 45 [vI b], Ent.row (.slice (some ⟨b65, 0, none⟩) 1 1) 27 5 1 ([c].flatMap Change.enc), Ent.row (.slice none 0 0) 27 5 0 ([].flatMap Change.enc)] [Ent.blk b10 27 (Change.enc c), Ent.blk b2 24 (DataSet.enc base)] rfl trivial (fun _ => x_callv (first := []) (caps := [pB b3 0]) rfl Ty.ca25 rfl) (fun _ h => (((((((((St.torow (cs := [vI c.Kind, vI c.Id, vS c.Key, vS c.Record, vS c.Volume]) ((((h.front 8 _ rfl).front 6 _ rfl).nilrow 27 5).front 7 _ rfl) 5 1 rfl (by decide)).front 11 _ rfl).front 11 _ rfl).front 6 _ rfl).front 9 _ rfl).front 10 _ rfl).front 9 _ rfl).front 10 _ rfl).front 11 _ rfl).keep [true, true, true, true, true, true, true, true, true, true, true, true] rfl) lown_mem (fun w hS => f25_okC ds dsA dsC alts altsA altsC b3 b70 b101 b4 b66 b102 b1 [c] (some ⟨b65, 0, none⟩) 1 1 [] none 0 0 [] false c p b w (dsR.on hS lown_mem) (fun i => (dsN i).on hS lown_mem) (altsR.on hS lown_mem) hy_ hy_ hy_ hy_ hy_ hy_ hy_ hy_ hy_ hy_ hy_ (hS.give lown_in)) ?_
      rintro _ _ ⟨e103, e104, e105, e106, zs107, us108, e109, e110, rfl, rfl, hf111, hf112, hf113, hf114⟩
      try simp only [List.length_cons, List.length_nil, Nat.zero_add, Nat.reduceAdd] at hf112
      try simp only [List.length_cons, List.length_nil, Nat.zero_add, Nat.reduceAdd] at hf113
      refine s_ av_ (z_ (n_ (q_ (q_ (g_ (s_ mv_ (s_ (x_neq_i rfl rfl) (z_ (n_ ?_)))))))))
      refine ifd (fun h115w h115 => ?_) (fun h115w h115 => ?_)
      ·refine q_ (g_ (s_ mv_ (s_ av_ (s_ av_ (z_ (n_ (rt_ (nr_ ?_))))))))
       refine JX_rets [_, _] (Value.tuple #[_, _]) Try.results10 (fun w h => ⟨rfl, rfl, trivial⟩) rfl [Ent.blk p 45 [vI e110], Ent.row (.slice none ([] : List Change).length 0) 27 5 ([] : List Change).length (([] : List Change).flatMap Change.enc)] (fun _ h => ((h.nilrow 27 5).front 8 _ rfl).keep [true, true, false, false, false, false, false, false, false, false, false, false, false] rfl) ⟨none, 0, ([] : List Change), e109, e110, ?_, ?_, ?_, ?_, ?_⟩
       ·have e_x0 : (0 : Nat) = (([] : List Change).length) := by first | rfl | omega | (simp_all; done) | (simp_all; omega)
        exact congrArg (fun (x0 : Nat) => Value.tuple #[vL none x0 0, vI e109]) e_x0
       ·rfl
       ·first
         | (exfalso; omega)
         | exact R27.qp_same (R27.pl_bad (by assumption))
         | exact R27.qp_same (R27.pl_empty (by assumption) (by assumption))
         | exact R27.qp_get (by assumption) (by assumption) (by assumption) no_such_condition (by assumption)
         | exact R27.qp_errA (by assumption) (by assumption) (by assumption) no_such_condition (by assumption) hf111 (by assumption)
         | exact R27.qp_okA (by assumption) (by assumption) (by assumption) no_such_condition (by assumption) hf111 (by assumption)
         | exact R27.qp_errB (by assumption) (by assumption) hf111 (by assumption)
         | exact R27.qp_okB (by assumption) (by assumption) hf111 (by assumption)
       ·(try simp only [List.length_append, List.length_cons, List.length_nil, List.length_map]); omega
       ·assumption
      ·refine sk_ (n_ (q_ (g_ (r_ (ld_ 4 Ty.sc31) (r_ (ld_ 5 Ty.sc31) (o_ (O_append_f 8 Change.enc 5 zs107 us108 Try.underlying31 Ty.sz27 Ty.by27 Ty.ze27 rfl (by decide) rfl rfl rfl rfl Change.enc_len Change.enc_one (cells_row 9 rfl) lt_ lt_ fun A116 c117 => ?_)))))))
       refine s_ av_ (s_ av_ (z_ (xk_ [8, 9] ?_)))
       refine n_ (rt_ ?_)
       refine JX_rets [_, _] (Value.tuple #[_, _]) Try.results10 (fun w h => ⟨rfl, rfl, trivial⟩) rfl _ (fun _ h => h.keep [false, false, false, false, false, false, false, true, true, false, false, false] rfl) ⟨A116, c117, zs107 ++ us108, 0, e110, ?_, ?_, ?_, ?_, ?_⟩
       ·rfl
       ·rfl
       ·first
         | (exfalso; omega)
         | exact R27.qp_same (R27.pl_bad (by assumption))
         | exact R27.qp_same (R27.pl_empty (by assumption) (by assumption))
         | exact R27.qp_get (by assumption) (by assumption) (by assumption) no_such_condition (by assumption)
         | exact R27.qp_errA (by assumption) (by assumption) (by assumption) no_such_condition (by assumption) hf111 (by assumption)
         | exact R27.qp_okA (by assumption) (by assumption) (by assumption) no_such_condition (by assumption) hf111 (by assumption)
         | exact R27.qp_errB (by assumption) (by assumption) hf111 (by assumption)
         | exact R27.qp_okB (by assumption) (by assumption) hf111 (by assumption)
       ·(try simp only [List.length_append, List.length_cons, List.length_nil, List.length_map]); omega
       ·assumption
end Go.Proofs.Ytmbinhhlfbgiaaa
