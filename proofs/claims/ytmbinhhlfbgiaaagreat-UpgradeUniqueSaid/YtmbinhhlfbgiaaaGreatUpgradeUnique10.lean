/- C27a, C27b in one text. -/
import Derived.Test.YtmbinhhlfbgiaaaGreatUpgradeUnique8
import Derived.Test.YtmbinhhlfbgiaaaGreatPl27
namespace Go.Proofs.YtmbinhhlfbgiaaaGreat
open Go.GV
set_option linter.unusedVariables false
set_option linter.unusedSimpArgs false
theorem c27a0_ {p : Prop} (h : p := by rw [flat_length Pair.enc 2 Pair.enc_len]; first | omega | (simp; omega) | (simp_all; omega) | (simp_all; done)) : p := h
theorem c27a1_ {p : Prop} (h : p := by exact p3 Tryz.results129 rfl rfl rfl ⟨t3 (eS (Tf129_ok_)) (eS (Tf129_ok_)) (eI (Tf129_ok_)), rfl⟩) : p := h
set_option maxRecDepth 20000 in
theorem f130_ok (ds : List Data) (dsA : Option Addr) (dsC : Nat) (w : World) (dsR : RO [] w dsA (ds.flatMap Data.enc)) (dsN : ∀ i : Nat, RO [] w (ds.getD i default).PairsA (((ds.getD i default).Pairs).flatMap Pair.enc)) : Calls Tryz.prog 130 #[vG [vL dsA ds.length dsC, Value.pointer none]] w (Gives [] w fun v L => v = vB false ∧ L = []) := by
 refine calls_J [] 30 Tryz.func130 rfl Tryz.ntmps130 [(0, _)] rfl rfl (Give.nil w) ?_
 refine q_ (g_ (o_ (bxG fun b1 => ?_)))
 refine s_ av_ (z_ (n_ (q_ (q_ (g_ (s_ (fA 1 Ty.fi33_1) (r_ (ld_ 0 Ty.sc31) (s_ (x_eql_nilp Tryz.underlying31 rfl rfl) (s_ mv_ (sh_ rfl (sh_ rfl (sh_ rfl (sh_ rfl ?_)))))))))))))
 refine sh_ rfl (sh_ rfl (jr_ (vB true) (z_ (n_ (ift (q_ (g_ (s_ av_ (z_ (n_ (rt_ (nr_ ?_))))))))))))
 exact p1 Tryz.results130 rfl ⟨rfl, rfl⟩
set_option maxRecDepth 20000 in
theorem f34_ok (ds : List Data) (dsA : Option Addr) (dsC : Nat) (id : Int) (w : World) (dsR : RO [] w dsA (ds.flatMap Data.enc)) (dsN : ∀ i : Nat, RO [] w (ds.getD i default).PairsA (((ds.getD i default).Pairs).flatMap Pair.enc)) (q0 : ds.length ≤ 1000) (q1 : ∀ i, (ds.getD i default).Pairs.length ≤ 1000) : Calls Tryz.prog 34 #[vG [vL dsA ds.length dsC, Value.pointer none], vI id] w (Gives [] w fun v L => v = vL ((R27.ofD ds id).PairsA) ((R27.ofD ds id).Pairs.length) ((R27.ofD ds id).PairsC) ∧ L = []) := by
 refine calls_J [] 27 Tryz.func34 rfl Tryz.ntmps34 [(0, _), (1, _)] rfl rfl (Give.nil w) ?_
 refine q_ (g_ (o_ (bxG fun b1 => ?_)))
 refine s_ av_ (z_ (n_ (q_ (q_ (g_ (s_ av_ (z_ (n_ (k_ ?_)))))))))
 refine J_loop (X := Nat) (fun (k : Nat) => (k ≤ ds.length) ∧ (∀ i, i < k → (ds.getD i default).Id ≠ id)) (fun (k : Nat) => [(1, vI id), (2, pB b1 0), (5, vI ((k : Nat) : Int))]) (fun (k : Nat) => [Ent.blk b1 33 [vL dsA ds.length dsC, Value.pointer none]]) (fun (k : Nat) => ds.length - k) (0 : Nat) ?_ ⟨rfl, rfl, rfl, trivial⟩ (fun _ h => h) ?_
 ·try dsimp only
  refine ⟨?_, ?_⟩
  ·first | rfl | omega | (simp_all; done) | (simp_all; omega)
  ·intro i hi; omega
 intro k hI1
 obtain ⟨i1_0, i1_1⟩ := hI1
 try dsimp only at i1_0
 try dsimp only at i1_1
 try dsimp only
 refine q_ (q_ (g_ (s_ mv_ (s_ (fA 0 Ty.fi33_0) (r_ (ld_ 0 Ty.sc30) (s_ (lnS Tryz.underlying30) (s_ (x_lss_i rfl rfl) (z_ (n_ ?_)))))))))
 refine ifd (fun h2w h2 => ?_) (fun h2w h2 => ?_)
 ·refine sk_ (n_ (q_ (k_ (q_ (g_ (s_ (fA 0 Ty.fi33_0) (r_ (ld_ 0 Ty.sc30) (s_ mv_ (r_ (ixF Data.enc_len (cells_ro dsR) Tryz.underlying30 Ty.sz56) (s_ (fB0 Ty.fi56_0) (r_ (ldF0 Data.enc_len (cells_ro dsR) Ty.sc3) (s_ mv_ (s_ (x_eql_i rfl rfl) (z_ (n_ ?_)))))))))))))))
  refine ifd (fun h3w h3 => ?_) (fun h3w h3 => ?_)
  ·refine q_ (g_ (s_ (fA 0 Ty.fi33_0) (r_ (ld_ 0 Ty.sc30) (s_ mv_ (r_ (ixF Data.enc_len (cells_ro dsR) Tryz.underlying30 Ty.sz56) (s_ (fB Ty.fi56_1) (r_ (ldF 1 Data.enc_len (cells_ro dsR) Ty.sc42) (s_ av_ (z_ (xk_ [1, 2, 5, 4] ?_))))))))))
   refine n_ (rt_ (kq_ (nr_ (rr_ (kq_ (nr_ ?_))))))
   refine p1 Tryz.results34 rfl ⟨?_, rfl⟩
   have e_x0 : ((ds.getD k default) : Data) = (R27.ofD ds id) := by first | exact R27.ofD_hit (by omega) i1_1 (by assumption) | exact R27.ofD_miss (by omega) i1_1
   exact congrArg (fun (x0 : Data) => vL x0.PairsA x0.Pairs.length x0.PairsC) e_x0
  ·refine sk_ (kx_ (n_ (g_ (s_ mv_ (s_ (x_add_n (a := k) (b := 1) rfl rfl (by omega)) (s_ av_ (z_ ?_)))))))
   refine JX_round (k + 1 : Nat) ?_ ?_ ⟨rfl, rfl, rfl, trivial⟩ (fun _ h => h)
   ·try dsimp only
    refine ⟨?_, ?_⟩
    ·first | rfl | omega | (simp_all; done) | (simp_all; omega)
    ·intro i hi; by_cases hik : i = k
     ·subst hik; assumption
     ·exact i1_1 i (by omega)
   ·try dsimp only
    first | omega | (simp; omega) | (simp_all; omega)
 ·refine J_exit (ne_ (re_ (kh_ (n_ (q_ ?_)))))
  refine g_ (s_ av_ (z_ (n_ (rt_ ?_))))
  refine p1 Tryz.results34 rfl ⟨?_, rfl⟩
  have e_x0 : ((default : Data) : Data) = (R27.ofD ds id) := by first | exact R27.ofD_hit (by omega) i1_1 (by assumption) | exact R27.ofD_miss (by omega) i1_1
  exact congrArg (fun (x0 : Data) => vL x0.PairsA x0.Pairs.length x0.PairsC) e_x0
theorem Tf128_ok_ {p : Prop} (h : p := by first | (have hd := R27.get_hit (by omega) i1_1 (by assumption); first | (rw [hd]; done) | (rw [hd]; rfl)) | (have hd := R27.get_miss (by omega) i1_1; first | (rw [hd]; done) | (rw [hd]; rfl))) : p := h
set_option maxRecDepth 20000 in
theorem f128_ok (ds : List Data) (dsA : Option Addr) (dsC : Nat) (id : Int) (q : Bytes) (w : World) (dsR : RO [] w dsA (ds.flatMap Data.enc)) (dsN : ∀ i : Nat, RO [] w (ds.getD i default).PairsA (((ds.getD i default).Pairs).flatMap Pair.enc)) (q0 : ds.length ≤ 1000) (q1 : ∀ i, (ds.getD i default).Pairs.length ≤ 1000) : Calls Tryz.prog 128 #[vG [vL dsA ds.length dsC, Value.pointer none], vI id, vS q] w (Gives [] w fun v L => v = Value.tuple #[vS ((R27.getR (R27.ofD ds id).Pairs q).1), vI ((R27.getR (R27.ofD ds id).Pairs q).2)] ∧ L = []) := by
 refine calls_J [] 33 Tryz.func128 rfl Tryz.ntmps128 [(0, _), (1, _), (2, _)] rfl rfl (Give.nil w) ?_
 refine q_ (g_ (o_ (bxG fun b1 => ?_)))
 refine s_ av_ (s_ av_ (z_ (n_ (q_ (q_ (g_ (r_ (ldN 0 [vL dsA ds.length dsC, Value.pointer none] Ty.ag33 Ty.sz33) (c0 (cl_ Ty.ca130) (fun w hS => f130_ok ds dsA dsC w (rno dsR hS) (fun i => (dsN i).on hS (fun _ h => by cases h))) (z_ (n_ (iff_ (sk_ (n_ (q_ (g_ (r_ (ldN 0 [vL dsA ds.length dsC, Value.pointer none] Ty.ag33 Ty.sz33) (s_ mv_ (c0 (cl_ Ty.ca34) (fun w hS => f34_ok ds dsA dsC id w (rno dsR hS) (fun i => (dsN i).on hS (fun _ h => by cases h)) hy_ hy_) ?_))))))))))))))))))
 have ha2 := R27.ofD_len (by assumption) id
 refine s_ av_ (z_ (n_ (q_ (q_ (g_ (s_ av_ (z_ (n_ (k_ ?_)))))))))
 refine J_loop (X := Nat) (fun (k : Nat) => (k ≤ (R27.ofD ds id).Pairs.length) ∧ (∀ i, i < k → ((R27.ofD ds id).Pairs.getD i default).key ≠ q)) (fun (k : Nat) => [(2, vS q), (8, vL ((R27.ofD ds id).PairsA) ((R27.ofD ds id).Pairs.length) ((R27.ofD ds id).PairsC)), (9, vI ((k : Nat) : Int))]) (fun (k : Nat) => []) (fun (k : Nat) => (R27.ofD ds id).Pairs.length - k) (0 : Nat) ?_ ⟨rfl, rfl, rfl, trivial⟩ (fun _ h => h.keep [false] rfl) ?_
 ·try dsimp only
  refine ⟨?_, ?_⟩
  ·first | rfl | omega | (simp_all; done) | (simp_all; omega)
  ·intro i hi; omega
 intro k hI1
 obtain ⟨i1_0, i1_1⟩ := hI1
 try dsimp only at i1_0
 try dsimp only at i1_1
 try dsimp only
 refine q_ (q_ (g_ (s_ mv_ (s_ mv_ (s_ (lnS Tryz.underlying42) (s_ (x_lss_i rfl rfl) (z_ (n_ ?_))))))))
 refine ifd (fun h3w h3 => ?_) (fun h3w h3 => ?_)
 ·refine sk_ (n_ (q_ (k_ (q_ (g_ (s_ mv_ (s_ mv_ (r_ (x_indexAddr_at (k := k) (off := k * 2) (cells_ro (R27.ofD_ro dsN id)) Tryz.underlying42 Ty.sz54 rfl rfl lt_ c27a0_ rfl) (s_ (fB0 Ty.fi54_0) (r_ (ldF0 Pair.enc_len (cells_ro (R27.ofD_ro dsN id)) Ty.sc9) (s_ mv_ (s_ (x_eql_s rfl rfl) (z_ (n_ ?_))))))))))))))
  refine ifd (fun h4w h4 => ?_) (fun h4w h4 => ?_)
  ·refine q_ (g_ (s_ mv_ (s_ mv_ (r_ (x_indexAddr_at (k := k) (off := k * 2) (cells_ro (R27.ofD_ro dsN id)) Tryz.underlying42 Ty.sz54 rfl rfl lt_ c27a0_ rfl) (s_ (fB Ty.fi54_1) (r_ (ldF 1 Pair.enc_len (cells_ro (R27.ofD_ro dsN id)) Ty.sc9) (s_ av_ (s_ av_ (z_ (xk_ [2, 8, 9, 6, 7] ?_))))))))))
   refine n_ (rt_ (kq_ (nr_ (rr_ (kq_ (nr_ ?_))))))
   exact p2 Tryz.results128 rfl rfl ⟨t2 (eS (Tf128_ok_)) (eI (Tf128_ok_)), rfl⟩
  ·refine sk_ (kx_ (n_ (g_ (s_ mv_ (s_ (x_add_n (a := k) (b := 1) rfl rfl (by omega)) (s_ av_ (z_ ?_)))))))
   refine JX_round (k + 1 : Nat) ?_ ?_ ⟨rfl, rfl, rfl, trivial⟩ (fun _ h => h)
   ·try dsimp only
    refine ⟨?_, ?_⟩
    ·first | rfl | omega | (simp_all; done) | (simp_all; omega)
    ·intro i hi; by_cases hik : i = k
     ·subst hik; assumption
     ·exact i1_1 i (by omega)
   ·try dsimp only
    first | omega | (simp; omega) | (simp_all; omega)
 ·refine J_exit (ne_ (re_ (kh_ (n_ (q_ ?_)))))
  refine g_ (s_ av_ (s_ av_ (z_ (n_ (rt_ ?_)))))
  exact p2 Tryz.results128 rfl rfl ⟨t2 (eS (Tf128_ok_)) (eI (Tf128_ok_)), rfl⟩
theorem Tf129_ok_ {p : Prop} (h : p := by first | (have hd := R27.next_hit (by omega) i1_1 (by assumption); first | (rw [hd]; done) | (rw [hd]; rfl)) | (have hd := R27.next_miss (by omega) i1_1; first | (rw [hd]; done) | (rw [hd]; rfl))) : p := h
set_option maxRecDepth 20000 in
theorem f129_ok (ds : List Data) (dsA : Option Addr) (dsC : Nat) (id : Int) (q : Bytes) (w : World) (dsR : RO [] w dsA (ds.flatMap Data.enc)) (dsN : ∀ i : Nat, RO [] w (ds.getD i default).PairsA (((ds.getD i default).Pairs).flatMap Pair.enc)) (q0 : ds.length ≤ 1000) (q1 : ∀ i, (ds.getD i default).Pairs.length ≤ 1000) : Calls Tryz.prog 129 #[vG [vL dsA ds.length dsC, Value.pointer none], vI id, vS q] w (Gives [] w fun v L => v = Value.tuple #[vS ((R27.nextR (R27.ofD ds id).Pairs q).1), vS ((R27.nextR (R27.ofD ds id).Pairs q).2.1), vI ((R27.nextR (R27.ofD ds id).Pairs q).2.2)] ∧ L = []) := by
 refine calls_J [] 39 Tryz.func129 rfl Tryz.ntmps129 [(0, _), (1, _), (2, _)] rfl rfl (Give.nil w) ?_
 refine q_ (g_ (o_ (bxG fun b1 => ?_)))
 refine s_ av_ (s_ av_ (s_ av_ (z_ (n_ (q_ (q_ (g_ (r_ (ldN 0 [vL dsA ds.length dsC, Value.pointer none] Ty.ag33 Ty.sz33) (c0 (cl_ Ty.ca130) (fun w hS => f130_ok ds dsA dsC w (rno dsR hS) (fun i => (dsN i).on hS (fun _ h => by cases h))) (z_ (n_ (iff_ (sk_ (n_ (q_ (g_ (r_ (ldN 0 [vL dsA ds.length dsC, Value.pointer none] Ty.ag33 Ty.sz33) (s_ mv_ ?_))))))))))))))))))
 refine c0 (cl_ Ty.ca34) (fun w hS => f34_ok ds dsA dsC id w (rno dsR hS) (fun i => (dsN i).on hS (fun _ h => by cases h)) hy_ hy_) ?_
 have ha2 := R27.ofD_len (by assumption) id
 refine s_ av_ (z_ (n_ (q_ (q_ (g_ (s_ av_ (z_ (n_ (k_ ?_)))))))))
 refine J_loop (X := Nat) (fun (k : Nat) => (k ≤ (R27.ofD ds id).Pairs.length) ∧ (∀ i, i < k → R27.gtB ((R27.ofD ds id).Pairs.getD i default).key q = false)) (fun (k : Nat) => [(2, vS q), (9, vL ((R27.ofD ds id).PairsA) ((R27.ofD ds id).Pairs.length) ((R27.ofD ds id).PairsC)), (10, vI ((k : Nat) : Int))]) (fun (k : Nat) => []) (fun (k : Nat) => (R27.ofD ds id).Pairs.length - k) (0 : Nat) ?_ ⟨rfl, rfl, rfl, trivial⟩ (fun _ h => h.keep [false] rfl) ?_
 ·try dsimp only
  refine ⟨?_, ?_⟩
  ·first | rfl | omega | (simp_all; done) | (simp_all; omega)
  ·intro i hi; omega
 intro k hI1
 obtain ⟨i1_0, i1_1⟩ := hI1
 try dsimp only at i1_0
 try dsimp only at i1_1
 try dsimp only
 refine q_ (q_ (g_ (s_ mv_ (s_ mv_ (s_ (lnS Tryz.underlying42) (s_ (x_lss_i rfl rfl) (z_ (n_ ?_))))))))
 refine ifd (fun h3w h3 => ?_) (fun h3w h3 => ?_)
 ·refine sk_ (n_ (q_ (k_ (q_ (g_ (s_ mv_ (s_ mv_ (r_ (x_indexAddr_at (k := k) (off := k * 2) (cells_ro (R27.ofD_ro dsN id)) Tryz.underlying42 Ty.sz54 rfl rfl lt_ c27a0_ rfl) (s_ (fB0 Ty.fi54_0) (r_ (ldF0 Pair.enc_len (cells_ro (R27.ofD_ro dsN id)) Ty.sc9) (s_ mv_ (s_ (x_gtr_s rfl rfl) (z_ (n_ ?_))))))))))))))
  refine if_ (fun h4 => ?_) (fun h4 => ?_)
  ·have h4w := h4
   have h4 : ((Op.bytesLess ((((R27.ofD ds id).Pairs).getD k default).key) q) || (decide ((((R27.ofD ds id).Pairs).getD k default).key = q))) = false := bnot_true h4
   have ⟨h4, h5⟩ := bor_false h4
   have h5 := of_decide_eq_false h5
   refine q_ ?_
   refine drB [] 13 Ty.mixed ?_
   refine jp_ 0 rfl mv_ (jp_ 1 rfl mv_ (jq_ 2 rfl (x_indexAddr_at (k := k) (off := k * 2) (cells_ro (R27.ofD_ro dsN id)) Tryz.underlying42 Ty.sz54 rfl rfl lt_ c27a0_ rfl) (jp_ 3 rfl (fB0 Ty.fi54_0) (jq_ 4 rfl (ldF0 Pair.enc_len (cells_ro (R27.ofD_ro dsN id)) Ty.sc9) (jp_ 5 rfl mv_ (jp_ 6 rfl mv_ (jq_ 7 rfl (x_indexAddr_at (k := k) (off := k * 2) (cells_ro (R27.ofD_ro dsN id)) Tryz.underlying42 Ty.sz54 rfl rfl lt_ c27a0_ rfl) (jp_ 8 rfl (fB Ty.fi54_1) (jq_ 9 rfl (ldF 1 Pair.enc_len (cells_ro (R27.ofD_ro dsN id)) Ty.sc9) ?_)))))))))
   refine jp_ 10 rfl av_ (jp_ 11 rfl av_ (jp_ 12 rfl av_ ?_))
   refine JA_done (by kernel_rfl) gm_ ?_
   refine n_ (rt_ (kq_ (nr_ (rr_ (kq_ (nr_ ?_))))))
   exact c27a1_
  ·have h4w := h4
   have h4 : ((Op.bytesLess ((((R27.ofD ds id).Pairs).getD k default).key) q) || (decide ((((R27.ofD ds id).Pairs).getD k default).key = q))) = true := bnot_false h4
   simp only [Bool.and_eq_true, Bool.or_eq_true, Bool.and_eq_false_iff, Bool.or_eq_false_iff, Bool.not_eq_true', Bool.not_eq_false', decide_eq_true_eq, decide_eq_false_iff_not] at h4
   refine sk_ (kx_ (n_ (g_ (s_ mv_ (s_ (x_add_n (a := k) (b := 1) rfl rfl (by omega)) (s_ av_ (z_ ?_)))))))
   refine JX_round (k + 1 : Nat) ?_ ?_ ⟨rfl, rfl, rfl, trivial⟩ (fun _ h => h)
   ·try dsimp only
    refine ⟨?_, ?_⟩
    ·first | rfl | omega | (simp_all; done) | (simp_all; omega)
    ·intro i hi; by_cases hik : i = k
     ·subst hik; assumption
     ·exact i1_1 i (by omega)
   ·try dsimp only
    first | omega | (simp; omega) | (simp_all; omega)
 ·refine J_exit (ne_ (re_ (kh_ (n_ (q_ ?_)))))
  refine g_ (s_ av_ (s_ av_ (s_ av_ (z_ (n_ (rt_ ?_))))))
  exact c27a1_
set_option maxRecDepth 20000 in
theorem f67_ok (s : Bytes) (k : Bytes) (w : World) : Calls Tryz.prog 67 #[vS s, vS k] w (Gives [] w fun v L => v = vB (R27.begins s k) ∧ L = []) := by
 refine calls_J [] 18 Tryz.func67 rfl Tryz.ntmps67 [(0, _), (1, _)] rfl rfl (Give.nil w) ?_
 refine q_ (g_ (s_ av_ (z_ (n_ (q_ (g_ (s_ mv_ (s_ (x_len_s rfl Tryz.underlying9) (s_ mv_ (s_ (x_len_s rfl Tryz.underlying9) (s_ (x_geq_i rfl rfl) (s_ mv_ ?_))))))))))))
 refine and_ 6 (decide (sub s 0 k.length = k)) (fun g1 => ?_) ?_
 ·have g1r := g1
  have g1r := of_decide_eq_true g1r
  refine sg_ g1 mv_ (sg_ g1 mv_ (sg_ g1 (x_len_s rfl Tryz.underlying9) (sg_ g1 (x_sub_s (lo := 0) (hi := k.length) rfl Tryz.underlying9 (.inr ⟨rfl, rfl⟩) (.inl rfl) lt_ (by first | omega | (simp only [sub, List.length_drop, List.length_take]; omega) | (simp; omega) | (simp_all; omega))) (sg_ g1 mv_ (sg_ g1 (x_eql_s rfl rfl) ?_)))))
  exact cr_
 refine s_ av_ (z_ (n_ (rt_ ?_)))
 exact p1 Tryz.results67 rfl ⟨(eB (by rfl)), rfl⟩
set_option maxRecDepth 20000 in
theorem f47_ok (s : Bytes) (k : Bytes) (w : World) : Calls Tryz.prog 47 #[vS s, vS k] w (Gives [] w fun v L => v = vB (R27.begins s k) ∧ L = []) := by
 refine calls_J [] 8 Tryz.func47 rfl Tryz.ntmps47 [(0, _), (1, _)] rfl rfl (Give.nil w) ?_
 refine q_ (g_ (s_ av_ (z_ (n_ (q_ (g_ (s_ mv_ (s_ mv_ (c0 (cl_ Ty.ca67) (fun w hS => f67_ok s k w) (s_ av_ (z_ (n_ (rt_ ?_)))))))))))))
 exact p1 Tryz.results47 rfl ⟨rfl, rfl⟩
end Go.Proofs.YtmbinhhlfbgiaaaGreat

namespace Go.Proofs.YtmbinhhlfbgiaaaGreat
open Go.GV
set_option linter.unusedVariables false
set_option linter.unusedSimpArgs false
theorem c27b0_ {p : Prop} (h : p := by exact p2 Tryz.results75 rfl rfl ⟨t2 (eS (Tf75_ok_)) (eI (Tf75_ok_)), rfl⟩) : p := h
theorem c27b1_ {p : Prop} (h : p := by exact p2 Tryz.results39 rfl rfl ⟨t2 (eS (Tf39_ok_)) (eI (Tf39_ok_)), rfl⟩) : p := h
theorem c27b2_ {p : Prop} (h : p := by first | omega | (simp only [sub, List.length_drop, List.length_take]; omega) | (simp; omega) | (simp_all; omega)) : p := h
theorem c27b3_ {p : Prop} (h : p := by exact p2 Tryz.results99 rfl rfl ⟨t2 (eI (Tf99_ok_)) (eB (Tf99_ok_)), rfl⟩) : p := h
theorem c27b4_ {p : Prop} (h : p := by exact p2 Tryz.results38 rfl rfl ⟨t2 (eI (Tf38_ok_)) (eB (Tf38_ok_)), rfl⟩) : p := h
set_option maxRecDepth 20000 in
theorem f51_ok (d : DataSet) (w : World) : Calls Tryz.prog 51 #[vG (DataSet.enc d)] w (Gives [] w fun v L => v = vB (R27.isBase d) ∧ L = []) := by
 refine calls_J [] 20 Tryz.func51 rfl Tryz.ntmps51 [(0, _)] rfl rfl (Give.nil w) ?_
 refine q_ (g_ (o_ (bxG fun b1 => ?_)))
 refine s_ av_ (z_ (n_ (q_ (g_ (r_ (ldN 0 (DataSet.enc d) Ty.ag23 Ty.sz23) (c0 (cl_ Ty.ca65) (fun w hS => f65_ok d w) (s_ mv_ ?_)))))))
 refine and_ 3 (decide ((1 : Int) ≤ d.Id)) (fun g2 => ?_) ?_
 ·have g2r := g2
  have hi3 := R16.valid_facts g2r
  refine sg_ g2 (fA 0 Ty.fi23_0) (rg_ g2 (ld_ 0 Ty.sc3) (sg_ g2 (x_geq_i rfl rfl) ?_))
  exact cr_
 refine s_ mv_ ?_
 refine and_ 3 (decide (d.Id ≤ 1099511627776)) (fun g4 => ?_) ?_
 ·have g4r := g4
  have ⟨g4r, h5⟩ := band_true g4r
  have hi6 := R16.valid_facts g4r
  have h5 := of_decide_eq_true h5
  refine sg_ g4 (fA 0 Ty.fi23_0) (rg_ g4 (ld_ 0 Ty.sc3) (sg_ g4 (x_leq_i rfl rfl) ?_))
  exact cr_
 refine s_ mv_ ?_
 refine and_ 3 (decide (d.Base = 0)) (fun g7 => ?_) ?_
 ·have g7r := g7
  have ⟨g7r, h8⟩ := band_true g7r
  have ⟨g7r, h9⟩ := band_true g7r
  have hi10 := R16.valid_facts g7r
  have h9 := of_decide_eq_true h9
  have h8 := of_decide_eq_true h8
  refine sg_ g7 (fA 11 Ty.fi23_11) (rg_ g7 (ld_ 0 Ty.sc3) (sg_ g7 (x_eql_i rfl rfl) ?_))
  exact cr_
 refine s_ av_ (z_ (n_ (rt_ ?_)))
 exact p1 Tryz.results51 rfl ⟨(eB (by rfl)), rfl⟩
theorem Tf99_ok_ {p : Prop} (h : p := by first | (have hd := R27.number_len (k := s) (by omega); first | (rw [hd]; done) | (rw [hd]; rfl)) | (have hd := R27.number_u64 i1_0 i1_1 i1_2 (by omega) (by assumption); first | (rw [hd]; done) | (rw [hd]; rfl)) | (have hd := R27.number_u64b i1_0 i1_1 i1_2 (by omega) (by assumption); first | (rw [hd]; done) | (rw [hd]; rfl))) : p := h
set_option maxRecDepth 20000 in
theorem f99_ok (s : Bytes) (w : World) (q0 : s.length ≤ 1000000) : Calls Tryz.prog 99 #[vS s] w (Gives [] w fun v L => v = Value.tuple #[vI ((R27.number s).1), vB ((R27.number s).2)] ∧ L = []) := by
 refine calls_J [] 27 Tryz.func99 rfl Tryz.ntmps99 [(0, _)] rfl rfl (Give.nil w) ?_
 refine q_ (g_ (s_ av_ (s_ av_ (z_ (n_ (q_ (q_ (g_ (s_ mv_ (s_ (x_len_s rfl Tryz.underlying9) (s_ (x_neq_i rfl rfl) (z_ (n_ ?_)))))))))))))
 refine ifd (fun h1w h1 => ?_) (fun h1w h1 => ?_)
 ·refine q_ (g_ (s_ av_ (s_ av_ (z_ (n_ (rt_ (nr_ ?_)))))))
  exact c27b3_
 ·refine sk_ (n_ (q_ (g_ (s_ av_ (z_ (n_ (q_ (q_ (g_ (s_ mv_ (o_ (O_str_bytes s rfl Tryz.underlying9 Tryz.underlying134 Tryz.underlying5 fun b2 c3 z4 hz5 => ?_))))))))))))
  refine s_ (lnS Tryz.underlying134) (s_ mv_ (z_ (n_ (k_ ?_))))
  refine J_loop (X := Nat × UInt64) (fun (⟨k, n⟩ : Nat × UInt64) => (k ≤ s.length) ∧ (s.length = 8) ∧ (n.toNat = R27.keyVal (s.take k))) (fun (⟨k, n⟩ : Nat × UInt64) => [(2, vI 0), (3, vB false), (4, vU64 n), (11, vL (some ⟨b2, 0, none⟩) s.length c3), (12, vI ((s.length : Nat) : Int)), (13, vI ((k : Nat) : Int))]) (fun (⟨k, n⟩ : Nat × UInt64) => [Ent.blk b2 5 ((s ++ List.replicate z4 (0 : UInt8)).map vU8) (s.length + z4, s.length + z4 + 1)]) (fun (⟨k, n⟩ : Nat × UInt64) => s.length - k) ((0, (0 : UInt64)) : Nat × UInt64) ?_ ⟨rfl, rfl, rfl, rfl, rfl, rfl, trivial⟩ (fun _ h => h) ?_
  ·try dsimp only
   refine ⟨?_, ?_, ?_⟩
   ·first | rfl | omega | (simp_all; done) | (simp_all; omega)
   ·first | rfl | omega | (simp_all; done) | (simp_all; omega)
   ·rfl
  rintro ⟨k, n⟩ hI1
  obtain ⟨i1_0, i1_1, i1_2⟩ := hI1
  try dsimp only at i1_0
  try dsimp only at i1_1
  try dsimp only at i1_2
  try dsimp only
  refine q_ (g_ (s_ (x_lss_i rfl rfl) (z_ (n_ (q_ ?_)))))
  refine ifd (fun h6w h6 => ?_) (fun h6w h6 => ?_)
  ·refine sk_ (n_ (q_ (k_ (q_ (g_ (s_ (x_indexAddr_sl (k := k) Tryz.underlying134 Ty.sz5 rfl rfl lt_ (add_0k1 _ _)) (r_ (x_load_arr 0 vU8 0 rfl rfl Ty.sc5 lt_) (s_ av_ (z_ (n_ (g_ (s_ mv_ (js_ (vU64 (UInt64.ofBitVec (n.toBitVec <<< (8 : Nat)))) (x_shl_u64 (m := 8) rfl rfl (by decide)) (s_ mv_ (s_ (x_conv_u8_u64 rfl Tryz.underlying5 Tryz.underlying128) (s_ (x_or_u64 rfl rfl) ?_))))))))))))))))
   refine s_ av_ (z_ (kx_ (n_ (g_ (s_ (x_add_n (a := k) (b := 1) rfl rfl (by omega)) (s_ mv_ (z_ ?_)))))))
   refine JX_round ((k + 1, (UInt64.ofBitVec (n.toBitVec <<< (8 : Nat))) ||| (((s ++ List.replicate z4 (0 : UInt8)).getD k 0).toUInt64)) : Nat × UInt64) ?_ ?_ ⟨rfl, rfl, rfl, rfl, rfl, rfl, trivial⟩ (fun _ h => h)
   ·try dsimp only
    refine ⟨?_, ?_, ?_⟩
    ·first | rfl | omega | (simp_all; done) | (simp_all; omega)
    ·first | rfl | omega | (simp_all; done) | (simp_all; omega)
    ·first | exact R27.key_step i1_2 (by omega) i1_1 | (rw [R27.getD_pad (by omega)]; exact R27.key_step i1_2 (by omega) i1_1)
   ·try dsimp only
    first | omega | (simp; omega) | (simp_all; omega)
  ·refine J_exit (ne_ (re_ (kh_ (n_ (q_ ?_)))))
   refine q_ (g_ (s_ mv_ (js_ (vB (decide ((1099511627776 : UInt64) < n))) (x_gtr_u64 rfl rfl) (z_ (n_ ?_)))))
   refine ifd (fun h7w h7 => ?_) (fun h7w h7 => ?_)
   ·have h7u := h7
    try simp only [UInt8.lt_iff_toNat_lt, UInt8.le_iff_toNat_le, UInt8.reduceToNat, UInt32.lt_iff_toNat_lt, UInt32.le_iff_toNat_le, UInt32.reduceToNat, UInt64.lt_iff_toNat_lt, UInt64.le_iff_toNat_le, UInt64.reduceToNat] at h7u
    refine q_ (g_ (s_ av_ (s_ av_ (z_ (n_ (rt_ (nr_ ?_)))))))
    exact c27b3_
   ·have h7u := h7
    try simp only [UInt8.lt_iff_toNat_lt, UInt8.le_iff_toNat_le, UInt8.reduceToNat, UInt32.lt_iff_toNat_lt, UInt32.le_iff_toNat_le, UInt32.reduceToNat, UInt64.lt_iff_toNat_lt, UInt64.le_iff_toNat_le, UInt64.reduceToNat] at h7u
    refine sk_ (n_ (q_ (g_ (s_ mv_ (s_ (x_conv_u64_i64 rfl Tryz.underlying128 Tryz.underlying3 (by omega)) (s_ av_ (s_ av_ (z_ (n_ (rt_ ?_))))))))))
    exact c27b3_
theorem Tf38_ok_ {p : Prop} (h : p := by first | (have hd := R27.number_cond (by assumption); first | (rw [hd]; done) | (rw [hd]; rfl)) | (have hd := R27.number_nat i1_0 i1_1 i1_2 (by omega) (by omega); first | (rw [hd]; done) | (rw [hd]; rfl)) | (have hd := R27.number_natb i1_0 i1_1 i1_2 (by omega) (by omega); first | (rw [hd]; done) | (rw [hd]; rfl))) : p := h
set_option maxRecDepth 20000 in
theorem f38_ok (s : Bytes) (w : World) (q0 : s.length ≤ 1000000) : Calls Tryz.prog 38 #[vS s] w (Gives [] w fun v L => v = Value.tuple #[vI ((R27.number s).1), vB ((R27.number s).2)] ∧ L = []) := by
 refine calls_J [] 33 Tryz.func38 rfl Tryz.ntmps38 [(0, _)] rfl rfl (Give.nil w) ?_
 refine q_ (g_ (s_ av_ (s_ av_ (z_ (n_ (q_ (q_ (g_ (s_ mv_ (s_ (x_len_s rfl Tryz.underlying9) (s_ (x_neq_i rfl rfl) (s_ mv_ ?_))))))))))))
 refine or_ 3 (decide ((0 : UInt8) < s.getD 0 0)) (fun g1 => ?_) ?_
 ·have g1r := g1
  have g1r := of_decide_eq_false g1r
  refine sg_ g1 mv_ (sg_ g1 (x_idx_s (k := 0) rfl rfl Tryz.underlying9 (by omega)) (jg_ g1 (vB (decide ((0 : UInt8) < s.getD 0 0))) (x_gtr_u8 rfl rfl) ?_))
  exact cr_
 refine s_ mv_ ?_
 refine or_ 3 (decide ((0 : UInt8) < s.getD 1 0)) (fun g2 => ?_) ?_
 ·have g2r := g2
  have ⟨g2r, h3⟩ := bor_false g2r
  have g2r := of_decide_eq_false g2r
  have h3 := of_decide_eq_false h3
  have h3u := h3
  try simp only [UInt8.lt_iff_toNat_lt, UInt8.le_iff_toNat_le, UInt8.reduceToNat, UInt32.lt_iff_toNat_lt, UInt32.le_iff_toNat_le, UInt32.reduceToNat, UInt64.lt_iff_toNat_lt, UInt64.le_iff_toNat_le, UInt64.reduceToNat] at h3u
  refine sg_ g2 mv_ (sg_ g2 (x_idx_s (k := 1) rfl rfl Tryz.underlying9 (by omega)) (jg_ g2 (vB (decide ((0 : UInt8) < s.getD 1 0))) (x_gtr_u8 rfl rfl) ?_))
  exact cr_
 refine z_ (n_ ?_)
 refine if_ (fun h4 => ?_) (fun h4 => ?_)
 ·have h4w := h4
  simp only [Bool.and_eq_true, Bool.or_eq_true, Bool.and_eq_false_iff, Bool.or_eq_false_iff, Bool.not_eq_true', Bool.not_eq_false', decide_eq_true_eq, decide_eq_false_iff_not] at h4
  refine q_ (g_ (s_ av_ (s_ av_ (z_ (n_ (rt_ (nr_ ?_)))))))
  exact c27b4_
 ·have h4w := h4
  have ⟨h4, h5⟩ := bor_false h4
  have ⟨h4, h6⟩ := bor_false h4
  have h4 := of_decide_eq_false h4
  have h6 := of_decide_eq_false h6
  have h6u := h6
  try simp only [UInt8.lt_iff_toNat_lt, UInt8.le_iff_toNat_le, UInt8.reduceToNat, UInt32.lt_iff_toNat_lt, UInt32.le_iff_toNat_le, UInt32.reduceToNat, UInt64.lt_iff_toNat_lt, UInt64.le_iff_toNat_le, UInt64.reduceToNat] at h6u
  have h5 := of_decide_eq_false h5
  have h5u := h5
  try simp only [UInt8.lt_iff_toNat_lt, UInt8.le_iff_toNat_le, UInt8.reduceToNat, UInt32.lt_iff_toNat_lt, UInt32.le_iff_toNat_le, UInt32.reduceToNat, UInt64.lt_iff_toNat_lt, UInt64.le_iff_toNat_le, UInt64.reduceToNat] at h5u
  refine sk_ (n_ (q_ (g_ (s_ av_ (z_ (n_ (q_ (q_ (g_ (s_ av_ (z_ (n_ (k_ ?_)))))))))))))
  refine J_loop (X := Nat × Nat) (fun (⟨k, n⟩ : Nat × Nat) => (k ≤ 8) ∧ (s.length = 8) ∧ (n = R27.keyVal (s.take k)) ∧ (s.getD 0 0 = 0 ∧ s.getD 1 0 = 0)) (fun (⟨k, n⟩ : Nat × Nat) => [(0, vS s), (2, vI 0), (3, vB false), (4, vI ((n : Nat) : Int)), (5, vI ((k : Nat) : Int))]) (fun (⟨k, n⟩ : Nat × Nat) => []) (fun (⟨k, n⟩ : Nat × Nat) => 8 - k) ((0, 0) : Nat × Nat) ?_ ⟨rfl, rfl, rfl, rfl, rfl, trivial⟩ (fun _ h => h) ?_
  ·try dsimp only
   refine ⟨?_, ?_, ?_, ?_⟩
   ·first | rfl | omega | (simp_all; done) | (simp_all; omega)
   ·first | rfl | omega | (simp_all; done) | (simp_all; omega)
   ·rfl
   ·exact R27.tops (by assumption)
  rintro ⟨k, n⟩ hI1
  obtain ⟨i1_0, i1_1, i1_2, i1_3⟩ := hI1
  try dsimp only at i1_0
  try dsimp only at i1_1
  try dsimp only at i1_2
  try dsimp only at i1_3
  have hlow := R27.keyVal_small i1_3 i1_0 i1_1
  have hb := (s.getD k 0).toNat_lt
  try dsimp only
  refine q_ (q_ (g_ (s_ mv_ (s_ (x_lss_i rfl rfl) (z_ (n_ ?_))))))
  refine ifd (fun h7w h7 => ?_) (fun h7w h7 => ?_)
  ·refine sk_ (n_ (q_ (k_ (g_ (s_ mv_ (s_ (x_mul_n (a := n) (b := 256) rfl rfl (by omega)) (s_ mv_ (s_ mv_ (s_ (x_idx_s (k := k) rfl rfl Tryz.underlying9 (by omega)) (s_ (x_conv_u8_i64 rfl Tryz.underlying5 Tryz.underlying3) (s_ (x_add_n (a := n * 256) (b := (s.getD k 0).toNat) rfl rfl (by omega)) (s_ av_ (z_ (kx_ (n_ (g_ ?_))))))))))))))))
   refine s_ mv_ (s_ (x_add_n (a := k) (b := 1) rfl rfl (by omega)) (s_ av_ (z_ ?_)))
   refine JX_round ((k + 1, (n * 256) + ((s.getD k 0).toNat)) : Nat × Nat) ?_ ?_ ⟨rfl, rfl, rfl, rfl, rfl, trivial⟩ (fun _ h => h)
   ·try dsimp only
    refine ⟨?_, ?_, ?_, ?_⟩
    ·first | rfl | omega | (simp_all; done) | (simp_all; omega)
    ·first | rfl | omega | (simp_all; done) | (simp_all; omega)
    ·rw [i1_2]; exact (R27.keyVal_take s (by omega)).symm
    ·exact i1_3
   ·try dsimp only
    first | omega | (simp; omega) | (simp_all; omega)
  ·refine J_exit (ne_ (re_ (kh_ (n_ (q_ ?_)))))
   refine q_ (g_ (s_ mv_ (s_ (x_gtr_i rfl rfl) (z_ (n_ ?_)))))
   refine ifd (fun h8w h8 => ?_) (fun h8w h8 => ?_)
   ·refine q_ (g_ (s_ av_ (s_ av_ (z_ (n_ (rt_ (nr_ ?_)))))))
    exact c27b4_
   ·refine sk_ (n_ (q_ (g_ (s_ mv_ (s_ av_ (s_ av_ (z_ (n_ (rt_ ?_)))))))))
    exact c27b4_
theorem Tf75_ok_ {p : Prop} (h : p := by first | (have hd := R27.of_bad (d := d) (r := r) (by assumption); first | (rw [hd]; done) | (rw [hd]; rfl) | (rw [hd]; exact R26.sub_sub2 (by omega) (by omega) (by omega))) | (have hd := R27.of_type (d := d) (r := r) (by assumption) (by assumption); first | (rw [hd]; done) | (rw [hd]; rfl) | (rw [hd]; exact R26.sub_sub2 (by omega) (by omega) (by omega))) | (have hd := R27.of_rangeA (d := d) (r := r) (by assumption) (by assumption) (by assumption); first | (rw [hd]; done) | (rw [hd]; rfl) | (rw [hd]; exact R26.sub_sub2 (by omega) (by omega) (by omega))) | (have hd := R27.of_rangeB (d := d) (r := r) (by assumption) (by assumption) (by assumption); first | (rw [hd]; done) | (rw [hd]; rfl) | (rw [hd]; exact R26.sub_sub2 (by omega) (by omega) (by omega))) | (have hd := R27.of_okA (d := d) (r := r) (by assumption) (by assumption) (by assumption); first | (rw [hd]; done) | (rw [hd]; rfl) | (rw [hd]; exact R26.sub_sub2 (by omega) (by omega) (by omega))) | (have hd := R27.of_okB (d := d) (r := r) (by assumption) (by assumption) (by assumption); first | (rw [hd]; done) | (rw [hd]; rfl) | (rw [hd]; exact R26.sub_sub2 (by omega) (by omega) (by omega)))) : p := h
set_option maxRecDepth 20000 in
theorem f75_ok (d : DataSet) (r : Bytes) (w : World) (q0 : r.length ≤ 1000000) : Calls Tryz.prog 75 #[vG (DataSet.enc d), vS r] w (Gives [] w fun v L => v = Value.tuple #[vS ((R27.ofK d r).1), vI ((R27.ofK d r).2)] ∧ L = []) := by
 refine calls_J [] 33 Tryz.func75 rfl Tryz.ntmps75 [(0, _), (1, _)] rfl rfl (Give.nil w) ?_
 refine q_ (g_ (o_ (bxG fun b1 => ?_)))
 refine s_ av_ (s_ av_ (z_ (n_ (q_ (k_ (q_ (g_ (r_ (ldN 0 (DataSet.enc d) Ty.ag23 Ty.sz23) (c0 (cl_ Ty.ca65) (fun w hS => f65_ok d w) (s_ (x_not rfl) (s_ av_ (z_ (n_ ?_)))))))))))))
 refine if_ (fun h2 => ?_) (fun h2 => ?_)
 ·have h2w := h2
  have h2 : (R16.valid d) = false := bnot_true h2
  refine q_ (g_ (s_ av_ (s_ av_ (z_ (n_ (rt_ (kq_ (nr_ ?_))))))))
  exact c27b0_
 ·have h2w := h2
  have h2 : (R16.valid d) = true := bnot_false h2
  have hi3 := R16.valid_facts h2
  refine q_ (g_ (s_ (fA 1 Ty.fi23_1) (r_ (ld_ 0 Ty.sc3) (s_ (x_neq_i rfl rfl) (s_ av_ (z_ (n_ ?_)))))))
  refine ifd (fun h4w h4 => ?_) (fun h4w h4 => ?_)
  ·refine q_ (g_ (s_ av_ (s_ av_ (z_ (n_ (rt_ (kq_ (nr_ ?_))))))))
   exact c27b0_
  ·refine q_ (g_ (s_ mv_ (s_ (x_len_s rfl Tryz.underlying9) (s_ (fA 5 Ty.fi23_5) (r_ (ld_ 0 Ty.sc3) (s_ (fA 6 Ty.fi23_6) (r_ (ld_ 0 Ty.sc3) (s_ (x_add_i (a := d.KeyAt) (b := d.KeyLength) rfl rfl (by omega) (by omega)) (s_ (fA 3 Ty.fi23_3) (r_ (ld_ 0 Ty.sc3) ?_))))))))))
   refine c0 (cl_ Ty.ca92) (fun w hS => f92_ok _ _ _ w) (s_ (x_not rfl) (s_ av_ (z_ (xk_ [1, 2, 4, 5, 14] ?_))))
   refine n_ ?_
   refine if_ (fun h5 => ?_) (fun h5 => ?_)
   ·have h5w := h5
    have h5 : ((decide ((d.KeyAt + d.KeyLength) ≤ ((r.length : Nat) : Int))) && (decide (((r.length : Nat) : Int) ≤ d.Length))) = false := bnot_true h5
    simp only [Bool.and_eq_true, Bool.or_eq_true, Bool.and_eq_false_iff, Bool.or_eq_false_iff, Bool.not_eq_true', Bool.not_eq_false', decide_eq_true_eq, decide_eq_false_iff_not] at h5
    refine q_ (g_ (s_ av_ (s_ av_ (z_ (n_ (rt_ (kq_ (nr_ ?_))))))))
    exact c27b0_
   ·have h5w := h5
    have h5 : ((decide ((d.KeyAt + d.KeyLength) ≤ ((r.length : Nat) : Int))) && (decide (((r.length : Nat) : Int) ≤ d.Length))) = true := bnot_false h5
    have ⟨h5, h6⟩ := band_true h5
    have h5 := of_decide_eq_true h5
    have h6 := of_decide_eq_true h6
    refine sk_ (kx_ (n_ (q_ ?_)))
    refine drB [] 9 Ty.mixed ?_
    refine jp_ 0 rfl mv_ (jp_ 1 rfl (fA 5 Ty.fi23_5) (jq_ 2 rfl (ld_ 0 Ty.sc3) (jp_ 3 rfl (x_sub_s (lo := (d.KeyAt).toNat) (hi := r.length) rfl Tryz.underlying9 (.inl (lo_i (by omega))) (.inr ⟨rfl, rfl⟩) lt_ c27b2_) (jp_ 4 rfl (fA 6 Ty.fi23_6) (jq_ 5 rfl (ld_ 0 Ty.sc3) (jp_ 6 rfl (x_sub_s (lo := 0) (hi := (d.KeyLength).toNat) rfl Tryz.underlying9 (.inr ⟨rfl, rfl⟩) (.inl (lo_i (by omega))) lt_ c27b2_) (jp_ 7 rfl av_ (jp_ 8 rfl av_ ?_))))))))
    refine JA_done (by kernel_rfl) gm_ ?_
    refine n_ (rt_ ?_)
    exact c27b0_
theorem Tf39_ok_ {p : Prop} (h : p := by first | (have hd := R27.of_bad (d := d) (r := r) (by assumption); first | (rw [hd]; done) | (rw [hd]; rfl)) | (have hd := R27.of_type (d := d) (r := r) (by assumption) (by assumption); first | (rw [hd]; done) | (rw [hd]; rfl)) | (have hd := R27.of_rangeA (d := d) (r := r) (by assumption) (by assumption) (by assumption); first | (rw [hd]; done) | (rw [hd]; rfl)) | (have hd := R27.of_rangeB (d := d) (r := r) (by assumption) (by assumption) (by assumption); first | (rw [hd]; done) | (rw [hd]; rfl)) | (have hd := R27.of_okA (d := d) (r := r) (by assumption) (by assumption) (by assumption); first | (rw [hd]; done) | (rw [hd]; rfl)) | (have hd := R27.of_okB (d := d) (r := r) (by assumption) (by assumption) (by assumption); first | (rw [hd]; done) | (rw [hd]; rfl))) : p := h
set_option maxRecDepth 20000 in
theorem f39_ok (d : DataSet) (r : Bytes) (w : World) (q0 : r.length ≤ 1000000) : Calls Tryz.prog 39 #[vG (DataSet.enc d), vS r] w (Gives [] w fun v L => v = Value.tuple #[vS ((R27.ofK d r).1), vI ((R27.ofK d r).2)] ∧ L = []) := by
 refine calls_J [] 36 Tryz.func39 rfl Tryz.ntmps39 [(0, _), (1, _)] rfl rfl (Give.nil w) ?_
 refine q_ (g_ (o_ (bxG fun b1 => ?_)))
 refine s_ av_ (s_ av_ (z_ (n_ (q_ (q_ (g_ (r_ (ldN 0 (DataSet.enc d) Ty.ag23 Ty.sz23) (c0 (cl_ Ty.ca48) (fun w hS => f48_ok d w) (s_ (x_not rfl) (z_ (n_ ?_)))))))))))
 refine if_ (fun h2 => ?_) (fun h2 => ?_)
 ·have h2w := h2
  have h2 : (R16.valid d) = false := bnot_true h2
  refine q_ (g_ (s_ av_ (s_ av_ (z_ (n_ (rt_ (nr_ ?_)))))))
  exact c27b1_
 ·have h2w := h2
  have h2 : (R16.valid d) = true := bnot_false h2
  have hi3 := R16.valid_facts h2
  refine sk_ (n_ (q_ (q_ (g_ (s_ (fA 1 Ty.fi23_1) (r_ (ld_ 0 Ty.sc3) (s_ (x_neq_i rfl rfl) (z_ (n_ ?_)))))))))
  refine ifd (fun h4w h4 => ?_) (fun h4w h4 => ?_)
  ·refine q_ (g_ (s_ av_ (s_ av_ (z_ (n_ (rt_ (nr_ ?_)))))))
   exact c27b1_
  ·refine sk_ (n_ (q_ (q_ (g_ (s_ mv_ (s_ (x_len_s rfl Tryz.underlying9) (s_ (fA 3 Ty.fi23_3) (r_ (ld_ 0 Ty.sc3) (s_ (x_gtr_i rfl rfl) (s_ mv_ ?_))))))))))
   refine or_ 8 (decide (((r.length : Nat) : Int) < d.KeyAt + d.KeyLength)) (fun g5 => ?_) ?_
   ·have g5r := g5
    have g5r := of_decide_eq_false g5r
    refine sg_ g5 mv_ (sg_ g5 (x_len_s rfl Tryz.underlying9) (sg_ g5 (fA 5 Ty.fi23_5) (rg_ g5 (ld_ 0 Ty.sc3) (sg_ g5 (fA 6 Ty.fi23_6) (rg_ g5 (ld_ 0 Ty.sc3) (sg_ g5 (x_add_i (a := d.KeyAt) (b := d.KeyLength) rfl rfl (by omega) (by omega)) (sg_ g5 (x_lss_i rfl rfl) ?_)))))))
    exact cr_
   refine z_ (n_ ?_)
   refine if_ (fun h6 => ?_) (fun h6 => ?_)
   ·have h6w := h6
    simp only [Bool.and_eq_true, Bool.or_eq_true, Bool.and_eq_false_iff, Bool.or_eq_false_iff, Bool.not_eq_true', Bool.not_eq_false', decide_eq_true_eq, decide_eq_false_iff_not] at h6
    refine q_ (g_ (s_ av_ (s_ av_ (z_ (n_ (rt_ (nr_ ?_)))))))
    exact c27b1_
   ·have h6w := h6
    have ⟨h6, h7⟩ := bor_false h6
    have h6 := of_decide_eq_false h6
    have h7 := of_decide_eq_false h7
    refine sk_ (n_ (q_ (g_ (s_ mv_ (s_ (fA 5 Ty.fi23_5) (r_ (ld_ 0 Ty.sc3) (s_ (fA 5 Ty.fi23_5) (r_ (ld_ 0 Ty.sc3) (s_ (fA 6 Ty.fi23_6) (r_ (ld_ 0 Ty.sc3) (s_ (x_add_i (a := d.KeyAt) (b := d.KeyLength) rfl rfl (by omega) (by omega)) (s_ (x_sub_s (lo := (d.KeyAt).toNat) (hi := (d.KeyAt + d.KeyLength).toNat) rfl Tryz.underlying9 (.inl (lo_i (by omega))) (.inl (lo_i (by omega))) lt_ c27b2_) ?_))))))))))))
    refine s_ av_ (s_ av_ (z_ (xk_ [4, 5] ?_)))
    refine n_ (rt_ ?_)
    exact c27b1_
set_option maxRecDepth 20000 in
theorem f78_ok (s : Bytes) (w : World) (q0 : s.length ≤ 1000000) : Calls Tryz.prog 78 #[vS s] w (Gives [] w fun v L => v = vB (R27.isSlot s) ∧ L = []) := by
 refine calls_J [] 19 Tryz.func78 rfl Tryz.ntmps78 [(0, _)] rfl rfl (Give.nil w) ?_
 refine q_ (g_ (s_ av_ (z_ (n_ (q_ (g_ (s_ mv_ (c0 (cl_ Ty.ca99) (fun w hS => f99_ok s w hy_) (s_ mv_ (s_ (ex_ 0) (s_ (ex_ 1) (s_ av_ (s_ av_ ?_)))))))))))))
 refine z_ (n_ (q_ (g_ (s_ mv_ (s_ mv_ ?_)))))
 refine and_ 2 (decide ((1 : Int) ≤ (R27.number s).1)) (fun g1 => ?_) ?_
 ·have g1r := g1
  refine sg_ g1 mv_ (sg_ g1 (x_geq_i rfl rfl) ?_)
  exact cr_
 refine s_ mv_ ?_
 refine and_ 2 (decide ((R27.number s).1 ≤ 65536)) (fun g2 => ?_) ?_
 ·have g2r := g2
  have ⟨g2r, h3⟩ := band_true g2r
  have h3 := of_decide_eq_true h3
  refine sg_ g2 mv_ (sg_ g2 (x_leq_i rfl rfl) ?_)
  exact cr_
 refine s_ av_ (z_ (n_ (rt_ ?_)))
 exact p1 Tryz.results78 rfl ⟨(eB (by rfl)), rfl⟩
end Go.Proofs.YtmbinhhlfbgiaaaGreat
