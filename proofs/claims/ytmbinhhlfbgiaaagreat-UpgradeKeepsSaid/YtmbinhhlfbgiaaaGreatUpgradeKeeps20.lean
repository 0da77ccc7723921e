/- C27m, L27w in one text. -/
import Derived.Test.YtmbinhhlfbgiaaaGreatUpgradeKeeps18
import Derived.Test.YtmbinhhlfbgiaaaGreatUpgradeKeeps19
import Derived.Test.YtmbinhhlfbgiaaaGreatUpgradeKeeps16
namespace Go.Proofs.YtmbinhhlfbgiaaaGreat
open Go.GV
set_option linter.unusedVariables false
set_option linter.unusedSimpArgs false
theorem c27m0_ {p : Prop} (h : p := by first | exact R27.miss_add i1_0 lefth (hasK_not (by assumption)) | exact R27.miss_skip i1_0 lefth (hasK_mem (by assumption))) : p := h
set_option maxRecDepth 20000 in
theorem f40_ok (l : List Bytes) (lA : Option Addr) (lC : Nat) (w : World) (lR : RO [] w lA (l.map vS)) (q0 : l.length ≤ 1000000) : Calls Tryz.prog 40 #[vL lA l.length lC] w (Gives [] w fun v L => ∃ M : Nat, v = Value.map (some M) ∧ L = [Ent.mp vS M ((R27.sets l).map kT)]) := by
 refine calls_J [] 17 Tryz.func40 rfl Tryz.ntmps40 [(0, _)] rfl rfl (Give.nil w) ?_
 refine q_ (g_ (s_ av_ (z_ (n_ (q_ (g_ (o_ (O_makeMap vS fun b1 => ?_))))))))
 refine s_ av_ (z_ (n_ (q_ (q_ (g_ (s_ mv_ (s_ (lnS Tryz.underlying40) (s_ mv_ (z_ (n_ (k_ ?_)))))))))))
 refine J_loop (X := Nat × (List Bytes)) (fun (⟨k, ids⟩ : Nat × (List Bytes)) => (k ≤ l.length) ∧ (ids = R27.sets (l.take k))) (fun (⟨k, ids⟩ : Nat × (List Bytes)) => [(2, Value.map none), (3, Value.map (some b1)), (7, vL lA l.length lC), (8, vI ((l.length : Nat) : Int)), (9, vI ((k : Nat) : Int))]) (fun (⟨k, ids⟩ : Nat × (List Bytes)) => [Ent.mp vS b1 (ids.map kT)]) (fun (⟨k, ids⟩ : Nat × (List Bytes)) => l.length - k) ((0, ([] : List Bytes)) : Nat × (List Bytes)) ?_ ⟨rfl, rfl, rfl, rfl, rfl, trivial⟩ (fun _ h => h) ?_
 ·try dsimp only
  refine ⟨?_, ?_⟩
  ·first | rfl | omega | (simp_all; done) | (simp_all; omega)
  ·rfl
 rintro ⟨k, ids⟩ hI1
 obtain ⟨i1_0, i1_1⟩ := hI1
 try dsimp only at i1_0
 try dsimp only at i1_1
 try dsimp only
 refine q_ (g_ (s_ (x_lss_i rfl rfl) (z_ (n_ (q_ ?_)))))
 refine ifd (fun h2w h2 => ?_) (fun h2w h2 => ?_)
 ·refine sk_ (n_ (q_ (k_ (q_ (g_ (r_ (ixM (cells_ro lR) Tryz.underlying40 Ty.sz9) (r_ (ldM vS [] (cells_ro lR) Ty.sc9) (s_ av_ (z_ (n_ (g_ (s_ mv_ (s_ mv_ (o_ (O_mapUpdate 0 (f := vS) (k := (l.getD k [])) ((addK ids (l.getD k [])).map kT) [Ent.mp vS b1 ((addK ids (l.getD k [])).map kT)] rfl rfl rfl rfl Tryz.underlying84 (mapK_s Tryz.underlying9) (upd_kT ids (l.getD k [])) rfl ?_)))))))))))))))
  refine z_ (kx_ (n_ (g_ (s_ (x_add_n (a := k) (b := 1) rfl rfl (by omega)) (s_ mv_ (z_ ?_))))))
  refine JX_round ((k + 1, (addK ids (l.getD k []))) : Nat × (List Bytes)) ?_ ?_ ⟨rfl, rfl, rfl, rfl, rfl, trivial⟩ (fun _ h => h)
  ·try dsimp only
   refine ⟨?_, ?_⟩
   ·first | rfl | omega | (simp_all; done) | (simp_all; omega)
   ·exact R27.sets_step (by omega) i1_1
  ·try dsimp only
   first | omega | (simp; omega) | (simp_all; omega)
 ·refine J_exit (ne_ (re_ (kh_ (n_ (q_ ?_)))))
  refine g_ (s_ mv_ (s_ av_ (z_ (n_ (rt_ ?_)))))
  refine JX_rets [_] _ Tryz.results40 (fun w h => ⟨rfl, trivial⟩) rfl _ (fun _ h => h) ⟨b1, ?_, ?_⟩
  ·rfl
  ·have e_y0 : ((ids.map kT) : List (Bytes × Value)) = ((R27.sets l).map kT) := by
    rw [i1_1, List.take_of_length_le (by omega)]
   have e_all := (congrArg (fun (y0 : List (Bytes × Value)) => [Ent.mp vS b1 y0]) e_y0)
   exact e_all
set_option maxRecDepth 20000 in
theorem f41_ok (M1 : Nat) (M2 : Nat) (a : List Bytes) (b : List Bytes) (o : Nat) (xs : List Bytes) (xsA : Option Addr) (xsC : Nat) (xsN : Nat) (w : World) (xsQ : xsN = xs.length) (q0 : a.Nodup) (q1 : a.length ≤ 2000) (q2 : xs.length ≤ 10000) (hg : Give (Lown [Ent.mp vS M1 (a.map kT), Ent.mp vS M2 (b.map kT), Ent.blk o 40 [vL xsA xsN xsC], Ent.row (.slice xsA xsN xsC) 9 1 xsN (xs.map vS)]) w [Ent.mp vS M1 (a.map kT), Ent.mp vS M2 (b.map kT), Ent.blk o 40 [vL xsA xsN xsC], Ent.row (.slice xsA xsN xsC) 9 1 xsN (xs.map vS)]) : Calls Tryz.prog 41 #[Value.map (some M1), Value.map (some M2), pB o 0] w (Gives (Lown [Ent.mp vS M1 (a.map kT), Ent.mp vS M2 (b.map kT), Ent.blk o 40 [vL xsA xsN xsC], Ent.row (.slice xsA xsN xsC) 9 1 xsN (xs.map vS)]) w fun v L => ∃ zs : List Bytes, ∃ A2 : Option Addr, ∃ c2 : Nat, v = Value.tuple #[] ∧ L = [Ent.mp vS M1 (a.map kT), Ent.mp vS M2 (b.map kT), Ent.blk o 40 [vL A2 zs.length c2], Ent.row (.slice A2 zs.length c2) 9 1 zs.length (zs.map vS)] ∧ (R27.Got a b xs zs) ∧ (zs.length ≤ xs.length + 2000)) := by
 subst xsQ
 refine calls_J (Lown [Ent.mp vS M1 (a.map kT), Ent.mp vS M2 (b.map kT), Ent.blk o 40 [vL xsA xs.length xsC], Ent.row (.slice xsA xs.length xsC) 9 1 xs.length (xs.map vS)]) 20 Tryz.func41 rfl Tryz.ntmps41 [(0, _), (1, _), (2, _)] rfl rfl hg ?_
 refine q_ (g_ (s_ mv_ (o_ (O_range 0 (f := vS) rfl rfl Tryz.underlying84 fun es1 ck2 it3 hes4 hborn5 => ?_))))
 refine z_ (n_ (k_ ?_))
 refine J_loop (X := (List Bytes) × (Option (Bytes × Value)) × (List Bytes) × (Option Addr) × Nat) (fun (⟨left, leftC, zs, zsA, zsC⟩ : (List Bytes) × (Option (Bytes × Value)) × (List Bytes) × (Option Addr) × Nat) => (R27.Miss a b xs left zs)) (fun (⟨left, leftC, zs, zsA, zsC⟩ : (List Bytes) × (Option (Bytes × Value)) × (List Bytes) × (Option Addr) × Nat) => [(1, Value.map (some M2)), (2, pB o 0), (7, pB it3 0)]) (fun (⟨left, leftC, zs, zsA, zsC⟩ : (List Bytes) × (Option (Bytes × Value)) × (List Bytes) × (Option Addr) × Nat) => [Ent.rng vS it3 M1 es1 ck2 (left.map kT) leftC, Ent.mx M1 es1 ck2, Ent.mp vS M2 (b.map kT), Ent.blk o 40 [vL zsA zs.length zsC], Ent.row (.slice zsA zs.length zsC) 9 1 zs.length (zs.map vS)]) (fun (⟨left, leftC, zs, zsA, zsC⟩ : (List Bytes) × (Option (Bytes × Value)) × (List Bytes) × (Option Addr) × Nat) => left.length) ((a, (none : Option (Bytes × Value)), xs, xsA, xsC) : (List Bytes) × (Option (Bytes × Value)) × (List Bytes) × (Option Addr) × Nat) ?_ ⟨rfl, rfl, rfl, trivial⟩ (fun _ h => h) ?_
 ·try dsimp only
  exact R27.miss_start q0
 rintro ⟨left, leftC, zs, zsA, zsC⟩ hI1
 have i1_0 := hI1
 try dsimp only at i1_0
 have hml := R27.miss_len i1_0
 try dsimp only
 refine q_ (g_ ?_)
 refine JO_op rfl trivial (O_next 0 1 (f := vS) kT rfl rfl rfl hborn5 (fun left0 => ?_) (fun lefta leftn lefth => ?_))
 ·refine s_ (ex_ 0) (z_ (n_ (q_ (iff_ (J_exit (ne_ (re_ (kh_ ?_))))))))
  refine mm_ 1 hes4 hborn5 rfl ?_
  refine JX_end0 Tryz.results41 [Ent.mp vS M1 (a.map kT), Ent.mp vS M2 (b.map kT), Ent.blk o 40 [vL zsA zs.length zsC], Ent.row (.slice zsA zs.length zsC) 9 1 zs.length (zs.map vS)] (fun _ h => h.keep [false, true, true, true, true] rfl) ⟨zs, zsA, zsC, ?_, ?_, ?_, ?_⟩
  ·rfl
  ·rfl
  ·subst left0; exact i1_0
  ·omega
 ·have leftl := (List.getElem?_eq_some_iff.1 lefth).1
  have lefte := List.length_eraseIdx_of_lt leftl
  have leftm := List.mem_of_getElem? lefth
  refine s_ (ex_ 0) (z_ (n_ (q_ (ift (sk_ (n_ (k_ (q_ (g_ (r_ (O_entry 0 1 (f := vS) (p := kT lefta) rfl rfl rfl hborn5) (s_ (ex_ 0) (s_ av_ (z_ (n_ (q_ (g_ (s_ mv_ (s_ mv_ ?_))))))))))))))))))
  refine JO_read (vB (hasK b lefta)) rfl trivial (x_lookup_v 2 (f := vS) (k := lefta) rfl rfl rfl Tryz.underlying84 (mapK_s Tryz.underlying9) Ty.ze4 rfl (lk_kT_v b lefta)) ?_
  refine s_ (x_not rfl) (z_ (n_ ?_))
  refine if_ (fun h6 => ?_) (fun h6 => ?_)
  ·have h6w := h6
   have h6 : ((hasK b lefta)) = false := bnot_true h6
   refine g_ (r_ (ld_ 3 Ty.sc40) (s_ mv_ (o_ (O_buildSlice (cs := [vS lefta]) Tryz.underlying40 Ty.sz9 Ty.ze9 (by decide) (by decide) (by kernel_rfl) fun b7 => ?_))))
   refine o_ (O_append_m 5 vS zs [lefta] Tryz.underlying40 Ty.sz9 Ty.by9 Ty.ze9 rfl rfl rfl rfl rfl (fun _ => rfl) (cells_blk 0 (off := 0) (m := 1) rfl rfl) lt_ lt_ fun A8 c9 => ?_)
   refine o_ (st1 4 Ty.sz40 ?_)
   refine z_ (kx_ ?_)
   refine JX_round (((left.eraseIdx leftn), (some (kT lefta)), zs ++ [lefta], A8, c9) : (List Bytes) × (Option (Bytes × Value)) × (List Bytes) × (Option Addr) × Nat) ?_ ?_ ⟨rfl, rfl, rfl, trivial⟩ (fun _ h => h.keep [false, true, true, true, true, true] rfl)
   ·try dsimp only
    exact c27m0_
   ·try dsimp only
    omega
  ·have h6w := h6
   have h6 : ((hasK b lefta)) = true := bnot_false h6
   refine sk_ (kx_ ?_)
   refine JX_round (((left.eraseIdx leftn), (some (kT lefta)), zs, zsA, zsC) : (List Bytes) × (Option (Bytes × Value)) × (List Bytes) × (Option Addr) × Nat) ?_ ?_ ⟨rfl, rfl, rfl, trivial⟩ (fun _ h => h)
   ·try dsimp only
    exact c27m0_
   ·try dsimp only
    omega
set_option maxRecDepth 20000 in
theorem f15_ok (alt : DataSet) (l : List Pair) (lA : Option Addr) (lC : Nat) (rs : List Bytes) (rsA : Option Addr) (rsC : Nat) (w : World) (lR : RO [] w lA (l.flatMap Pair.enc)) (rsR : RO [] w rsA (rs.map vS)) (q0 : l.length ≤ 1000) (q1 : ∀ i, i < l.length → (l.getD i default).key.length ≤ 1000 ∧ (l.getD i default).record.length ≤ 1000) (q2 : rs.length ≤ 1000) : Calls Tryz.prog 15 #[vG (DataSet.enc alt), vL lA l.length lC, vL rsA rs.length rsC] w (Gives [] w fun v L => ∃ A : Option Addr, ∃ cc : Nat, v = vL A ((R27.flaws (R27.dif (R26.recs alt l) rs)).length) cc ∧ L = [Ent.row (.slice A (R27.flaws (R27.dif (R26.recs alt l) rs)).length cc) 89 3 (R27.flaws (R27.dif (R26.recs alt l) rs)).length ((R27.flaws (R27.dif (R26.recs alt l) rs)).flatMap Flaw.enc)]) := by
 refine calls_J [] 47 Tryz.func15 rfl Tryz.ntmps15 [(0, _), (1, _), (2, _)] rfl rfl (Give.nil w) ?_
 refine q_ (g_ (o_ (bxG fun b1 => ?_)))
 refine s_ av_ (z_ (n_ (q_ (g_ (s_ av_ (z_ (n_ (q_ (g_ (s_ mv_ (r_ (ldN 0 (DataSet.enc alt) Ty.ag23 Ty.sz23) (s_ mv_ ?_))))))))))))
 refine c1 (cl_ Ty.ca32) (fun w hS => f32_ok alt l lA lC w (rno lR hS) hy_ hy_) ?_
 rintro _ _ ⟨A2, c3, rfl, rfl⟩
 have ha4 := R26.recs_len alt l
 refine c1 (x_callv (first := []) (caps := []) rfl Ty.ca40 rfl) (fun w hS => f40_ok _ A2 c3 w (RO.of_row hS 0 rfl) hy_) ?_
 rintro _ _ ⟨M5, rfl, rfl⟩
 refine s_ mv_ (s_ mv_ ?_)
 refine c1 (x_callv (first := []) (caps := []) rfl Ty.ca40 rfl) (fun w hS => f40_ok rs rsA rsC w (rno rsR hS) hy_) ?_
 rintro _ _ ⟨M6, rfl, rfl⟩
 refine s_ av_ (s_ av_ (z_ (n_ (q_ (g_ (o_ (al_ Ty.ze40 fun b7 => ?_)))))))
 refine z_ (n_ (q_ (g_ (js_ (Value.func (.func 41) #[] #[pB b7 0]) (x_makeFunc rfl rfl) (s_ av_ (z_ (n_ (q_ (g_ (s_ mv_ (s_ mv_ (s_ mv_ ?_))))))))))))
 refine JO_call (Lown [Ent.mp vS M5 ((R27.sets (R26.recs alt l)).map kT), Ent.mp vS M6 ((R27.sets rs).map kT), Ent.blk b7 40 [vL none 0 0], Ent.row (.slice none 0 0) 9 1 0 ([].map vS)]) [Ent.mp vS M5 ((R27.sets (R26.recs alt l)).map kT), Ent.mp vS M6 ((R27.sets rs).map kT), Ent.blk b7 40 [vL none 0 0], Ent.row (.slice none 0 0) 9 1 0 ([].map vS)] [Ent.row (.slice A2 (R26.recs alt l).length c3) 9 1 (R26.recs alt l).length ((R26.recs alt l).map vS), Ent.blk b1 23 (DataSet.enc alt)] rfl trivial (fun _ => x_callv (first := []) (caps := [pB b7 0]) rfl Ty.ca41 rfl) (fun _ h => ((((((h.front 4 _ rfl).front 4 _ rfl).nilrow 9 1).front 3 _ rfl).front 4 _ rfl).front 5 _ rfl).keep [true, true, true, true, true, true] rfl) lown_mem (fun w hS => f41_ok M5 M6 (R27.sets (R26.recs alt l)) (R27.sets rs) b7 [] none 0 0 w hy_ (by exact R27.sets_nodup _) (by exact Nat.le_trans (R27.sets_len _) (by omega)) hy_ (hS.give lown_in)) ?_
 rintro _ _ ⟨zs8, e9, e10, rfl, rfl, hf11, hf12⟩
 try simp only [List.length_cons, List.length_nil, Nat.zero_add, Nat.reduceAdd] at hf12
 refine z_ (xk_ [6, 8, 9, 10, 11] ?_)
 refine n_ (q_ (g_ (s_ mv_ (s_ mv_ (s_ mv_ ?_)))))
 refine JO_call (Lown [Ent.mp vS M6 ((R27.sets rs).map kT), Ent.mp vS M5 ((R27.sets (R26.recs alt l)).map kT), Ent.blk b7 40 [vL e9 zs8.length e10], Ent.row (.slice e9 zs8.length e10) 9 1 zs8.length (zs8.map vS)]) [Ent.mp vS M6 ((R27.sets rs).map kT), Ent.mp vS M5 ((R27.sets (R26.recs alt l)).map kT), Ent.blk b7 40 [vL e9 zs8.length e10], Ent.row (.slice e9 zs8.length e10) 9 1 zs8.length (zs8.map vS)] [Ent.row (.slice A2 (R26.recs alt l).length c3) 9 1 (R26.recs alt l).length ((R26.recs alt l).map vS), Ent.blk b1 23 (DataSet.enc alt)] rfl trivial (fun _ => x_callv (first := []) (caps := [pB b7 0]) rfl Ty.ca41 rfl) (fun _ h => ((((((h.front 5 _ rfl).front 5 _ rfl).front 5 _ rfl).front 5 _ rfl).front 4 _ rfl).front 5 _ rfl).keep [true, true, true, true, true, true] rfl) lown_mem (fun w hS => f41_ok M6 M5 (R27.sets rs) (R27.sets (R26.recs alt l)) b7 zs8 e9 e10 zs8.length w hy_ (by exact R27.sets_nodup _) (by exact Nat.le_trans (R27.sets_len _) (by omega)) hy_ (hS.give lown_in)) ?_
 rintro _ _ ⟨zs13, e14, e15, rfl, rfl, hf16, hf17⟩
 refine z_ (n_ (q_ (g_ (r_ (ld_ 2 Ty.sc40) ?_))))
 refine JO_call (Lown [Ent.row (.slice e14 zs13.length e15) 9 1 zs13.length (zs13.map vS)]) [Ent.row (.slice e14 zs13.length e15) 9 1 zs13.length (zs13.map vS)] [Ent.mp vS M6 ((R27.sets rs).map kT), Ent.mp vS M5 ((R27.sets (R26.recs alt l)).map kT), Ent.blk b7 40 [vL e14 zs13.length e15], Ent.row (.slice A2 (R26.recs alt l).length c3) 9 1 (R26.recs alt l).length ((R26.recs alt l).map vS), Ent.blk b1 23 (DataSet.enc alt)] rfl trivial (fun _ => x_call Ty.ca42 rfl) (fun _ h => ((((((h.front 5 _ rfl).front 5 _ rfl).front 4 _ rfl).front 4 _ rfl).front 4 _ rfl).front 5 _ rfl).keep [true, true, true, true, true, true] rfl) lown_mem (fun w hS => sort_ok zs13 e14 e15 zs13.length w (by first | rfl | exact (srt_length _).symm) (by first | omega | (rw [srt_length]; omega)) (hS.give lown_in)) ?_
 rintro _ _ ⟨rfl, rfl⟩
 refine z_ (n_ (q_ (g_ (s_ av_ (z_ (n_ (q_ (q_ (g_ (r_ (ld_ 3 Ty.sc40) (s_ (lnS Tryz.underlying40) (s_ mv_ (z_ (n_ (k_ ?_)))))))))))))))
 refine J_loop (X := Nat × (List Flaw) × (Option Addr) × Nat) (fun (⟨k, out, outA, outC⟩ : Nat × (List Flaw) × (Option Addr) × Nat) => (k ≤ (srt zs13).length) ∧ (out = R27.flaws ((srt zs13).take k)) ∧ (out.length ≤ k)) (fun (⟨k, out, outA, outC⟩ : Nat × (List Flaw) × (Option Addr) × Nat) => [(6, vL none 0 0), (12, vL outA out.length outC), (34, vL e14 zs13.length e15), (35, vI ((zs13.length : Nat) : Int)), (36, vI ((k : Nat) : Int))]) (fun (⟨k, out, outA, outC⟩ : Nat × (List Flaw) × (Option Addr) × Nat) => [Ent.row (.slice e14 zs13.length e15) 9 1 zs13.length ((srt zs13).map vS), Ent.row (.slice outA out.length outC) 89 3 out.length (out.flatMap Flaw.enc)]) (fun (⟨k, out, outA, outC⟩ : Nat × (List Flaw) × (Option Addr) × Nat) => (srt zs13).length - k) ((0, ([] : List Flaw), none, 0) : Nat × (List Flaw) × (Option Addr) × Nat) ?_ ⟨rfl, rfl, rfl, rfl, rfl, trivial⟩ (fun _ h => ((h.nilrow 89 3).front 1 _ rfl).keep [true, true, false, false, false, false, false] rfl) ?_
 ·try dsimp only
  refine ⟨?_, ?_, ?_⟩
  ·first | rfl | omega | (simp_all; done) | (simp_all; omega)
  ·rfl
  ·exact Nat.le_refl _
 rintro ⟨k, out, outA, outC⟩ hI1
 obtain ⟨i1_0, i1_1, i1_2⟩ := hI1
 try dsimp only at i1_0
 try dsimp only at i1_1
 try dsimp only at i1_2
 have hdz := R27.dif_got hf11 hf16
 have hsz := srt_length zs13
 try dsimp only
 refine q_ (g_ (s_ (x_lss_i rfl rfl) (z_ (n_ (q_ ?_)))))
 refine ifd (fun h18w h18 => ?_) (fun h18w h18 => ?_)
 ·refine sk_ (n_ (q_ (k_ (q_ (g_ (r_ (x_indexAddr_at (k := k) (off := k) (cells_row 0 rfl) Tryz.underlying40 Ty.sz9 rfl rfl lt_ (by rw [List.length_map]; first | omega | (simp; omega) | (simp_all; omega) | (simp_all; done)) (Nat.mul_one _)) (r_ (ldM vS [] (cells_row 0 rfl) Ty.sc9) (s_ av_ (z_ (n_ (g_ (s_ mv_ (s_ mv_ (js_ (vG [vI 6, vI 0, vS ((srt zs13).getD k [])]) (x_build (by kernel_rfl)) (o_ (O_buildSlice (cs := [vI 6, vI 0, vS ((srt zs13).getD k [])]) Tryz.underlying48 Ty.sz89 Ty.ze89 (by decide) (by decide) (by kernel_rfl) fun b19 => ?_))))))))))))))))
  refine o_ (O_append_f 2 Flaw.enc 3 out [(Flaw.mk 6 0 ((srt zs13).getD k []))] Tryz.underlying48 Ty.sz89 Ty.by89 Ty.ze89 rfl (by decide) rfl rfl rfl rfl Flaw.enc_len Flaw.enc_one (cells_blk 0 (off := 0) (m := 3) rfl rfl) lt_ lt_ fun A20 c21 => ?_)
  refine s_ av_ (z_ (kx_ (n_ (g_ (s_ (x_add_n (a := k) (b := 1) rfl rfl (by omega)) (s_ mv_ (z_ ?_)))))))
  refine JX_round ((k + 1, out ++ [(Flaw.mk 6 0 ((srt zs13).getD k []))], A20, c21) : Nat × (List Flaw) × (Option Addr) × Nat) ?_ ?_ ⟨rfl, rfl, rfl, rfl, rfl, trivial⟩ (fun _ h => h.keep [false, true, true] rfl)
  ·try dsimp only
   refine ⟨?_, ?_, ?_⟩
   ·first | rfl | omega | (simp_all; done) | (simp_all; omega)
   ·exact R27.flaws_step (by omega) i1_1
   ·(try simp only [List.length_append, List.length_cons, List.length_nil]); omega
  ·try dsimp only
   first | omega | (simp; omega) | (simp_all; omega)
 ·refine J_exit (ne_ (re_ (kh_ (n_ (q_ ?_)))))
  refine g_ (s_ mv_ (s_ av_ (z_ (n_ (rt_ ?_)))))
  refine JX_rets [_] _ Tryz.results15 (fun w h => ⟨rfl, trivial⟩) rfl _ (fun _ h => h.keep [false, true] rfl) ⟨outA, outC, ?_, ?_⟩
  ·have e_x0 : (out.length : Nat) = ((R27.flaws (R27.dif (R26.recs alt l) rs)).length) := congrArg List.length (R27.flaws_end i1_1 (by omega) hdz)
   exact congrArg (fun (x0 : Nat) => vL outA x0 outC) e_x0
  ·have e_y0 : (out : List Flaw) = (R27.flaws (R27.dif (R26.recs alt l) rs)) := by
    exact R27.flaws_end i1_1 (by omega) hdz
   have e_all := (congrArg (fun (y0 : List Flaw) => [Ent.row (.slice outA y0.length outC) 89 3 y0.length (y0.flatMap Flaw.enc)]) e_y0)
   exact e_all
set_option maxRecDepth 20000 in
theorem f14_ok (ds : List Data) (dsA : Option Addr) (dsC : Nat) (id : Int) (w : World) (dsR : RO [] w dsA (ds.flatMap Data.enc)) (dsN : ∀ i : Nat, RO [] w (ds.getD i default).PairsA (((ds.getD i default).Pairs).flatMap Pair.enc)) (q0 : ds.length ≤ 1000) (q1 : ∀ i, (ds.getD i default).Pairs.length ≤ 1000) : Calls Tryz.prog 14 #[vG [vL dsA ds.length dsC, Value.pointer none], vI id] w (Gives [] w fun v L => ∃ A : Option Addr, ∃ cc : Nat, v = vL A ((R27.keysOf (R27.ofD ds id).Pairs).length) cc ∧ L = [Ent.row (.slice A (R27.keysOf (R27.ofD ds id).Pairs).length cc) 9 1 (R27.keysOf (R27.ofD ds id).Pairs).length ((R27.keysOf (R27.ofD ds id).Pairs).map vS)]) := by
 refine calls_J [] 27 Tryz.func14 rfl Tryz.ntmps14 [(0, _), (1, _)] rfl rfl (Give.nil w) ?_
 refine q_ (g_ (o_ (bxG fun b1 => ?_)))
 refine s_ av_ (z_ (n_ (q_ (g_ (o_ (O_buildSlice0 Tryz.underlying40 Ty.sz9 fun b2 => ?_))))))
 refine s_ av_ (z_ (n_ (q_ (g_ (r_ (ldN 1 [vL dsA ds.length dsC, Value.pointer none] Ty.ag33 Ty.sz33) (s_ mv_ (c0 (cl_ Ty.ca34) (fun w hS => f34_ok ds dsA dsC id w (rno dsR hS) (fun i => (dsN i).on hS (fun _ h => by cases h)) hy_ hy_) ?_)))))))
 have ha3 := R27.ofD_len (by assumption) id
 refine s_ av_ (z_ (n_ (q_ (q_ (g_ (s_ av_ (z_ (n_ (k_ ?_)))))))))
 refine J_loop (X := Nat × (List Bytes) × (Option Addr) × Nat) (fun (⟨k, out, outA, outC⟩ : Nat × (List Bytes) × (Option Addr) × Nat) => (k ≤ (R27.ofD ds id).Pairs.length) ∧ (out = R27.keysOf ((R27.ofD ds id).Pairs.take k)) ∧ (out.length ≤ k)) (fun (⟨k, out, outA, outC⟩ : Nat × (List Bytes) × (Option Addr) × Nat) => [(4, vL none 0 0), (5, vL outA out.length outC), (6, vL ((R27.ofD ds id).PairsA) ((R27.ofD ds id).Pairs.length) ((R27.ofD ds id).PairsC)), (7, vI ((k : Nat) : Int))]) (fun (⟨k, out, outA, outC⟩ : Nat × (List Bytes) × (Option Addr) × Nat) => [Ent.row (.slice outA out.length outC) 9 1 out.length (out.map vS)]) (fun (⟨k, out, outA, outC⟩ : Nat × (List Bytes) × (Option Addr) × Nat) => (R27.ofD ds id).Pairs.length - k) ((0, ([] : List Bytes), (some ⟨b2, 0, none⟩), 0) : Nat × (List Bytes) × (Option Addr) × Nat) ?_ ⟨rfl, rfl, rfl, rfl, trivial⟩ (fun _ h => (St.torow (cs := []) h 1 0 rfl (by decide)).keep [true, false] rfl) ?_
 ·try dsimp only
  refine ⟨?_, ?_, ?_⟩
  ·first | rfl | omega | (simp_all; done) | (simp_all; omega)
  ·rfl
  ·exact Nat.le_refl _
 rintro ⟨k, out, outA, outC⟩ hI1
 obtain ⟨i1_0, i1_1, i1_2⟩ := hI1
 try dsimp only at i1_0
 try dsimp only at i1_1
 try dsimp only at i1_2
 try dsimp only
 refine q_ (q_ (g_ (s_ mv_ (s_ mv_ (s_ (lnS Tryz.underlying42) (s_ (x_lss_i rfl rfl) (z_ (n_ ?_))))))))
 refine ifd (fun h4w h4 => ?_) (fun h4w h4 => ?_)
 ·refine sk_ (n_ (q_ (k_ (g_ (s_ mv_ (s_ mv_ (s_ mv_ (r_ (x_indexAddr_at (k := k) (off := k * 2) (cells_ro (R27.ofD_ro dsN id)) Tryz.underlying42 Ty.sz54 rfl rfl lt_ (by rw [flat_length Pair.enc 2 Pair.enc_len]; first | omega | (simp; omega) | (simp_all; omega) | (simp_all; done)) rfl) (s_ (fB0 Ty.fi54_0) (r_ (ldF0 Pair.enc_len (cells_ro (R27.ofD_ro dsN id)) Ty.sc9) (o_ (O_buildSlice (cs := [vS ((((R27.ofD ds id).Pairs).getD k default).key)]) Tryz.underlying40 Ty.sz9 Ty.ze9 (by decide) (by decide) (by kernel_rfl) fun b5 => ?_))))))))))))
  refine o_ (O_append_m 1 vS out [(((R27.ofD ds id).Pairs).getD k default).key] Tryz.underlying40 Ty.sz9 Ty.by9 Ty.ze9 rfl rfl rfl rfl rfl (fun _ => rfl) (cells_blk 0 (off := 0) (m := 1) rfl rfl) lt_ lt_ fun A6 c7 => ?_)
  refine s_ av_ (z_ (kx_ (n_ (g_ (s_ mv_ (s_ (x_add_n (a := k) (b := 1) rfl rfl (by omega)) (s_ av_ (z_ ?_))))))))
  refine JX_round ((k + 1, out ++ [(((R27.ofD ds id).Pairs).getD k default).key], A6, c7) : Nat × (List Bytes) × (Option Addr) × Nat) ?_ ?_ ⟨rfl, rfl, rfl, rfl, trivial⟩ (fun _ h => h.keep [false, true] rfl)
  ·try dsimp only
   refine ⟨?_, ?_, ?_⟩
   ·first | rfl | omega | (simp_all; done) | (simp_all; omega)
   ·exact R27.keys_step (by omega) i1_1
   ·(try simp only [List.length_append, List.length_cons, List.length_nil]); omega
  ·try dsimp only
   first | omega | (simp; omega) | (simp_all; omega)
 ·refine J_exit (ne_ (re_ (kh_ (n_ (q_ ?_)))))
  refine g_ (s_ mv_ (s_ av_ (z_ (n_ (rt_ ?_)))))
  refine JX_rets [_] _ Tryz.results14 (fun w h => ⟨rfl, trivial⟩) rfl _ (fun _ h => h) ⟨outA, outC, ?_, ?_⟩
  ·have e_x0 : (out.length : Nat) = ((R27.keysOf (R27.ofD ds id).Pairs).length) := by rw [i1_1, List.take_of_length_le (by omega)]
   exact congrArg (fun (x0 : Nat) => vL outA x0 outC) e_x0
  ·have e_y0 : (out : List Bytes) = (R27.keysOf (R27.ofD ds id).Pairs) := by
    rw [i1_1, List.take_of_length_le (by omega)]
   have e_all := (congrArg (fun (y0 : List Bytes) => [Ent.row (.slice outA y0.length outC) 9 1 y0.length (y0.map vS)]) e_y0)
   exact e_all
end Go.Proofs.YtmbinhhlfbgiaaaGreat

namespace Go.Proofs.YtmbinhhlfbgiaaaGreat
open Go.GV
set_option linter.unusedVariables false
set_option linter.unusedSimpArgs false
theorem l27w0_ {p : Prop} (h : p := by exact cr_ (fun _ h => h.keep [false, true, true, true, true, true, true, true, true, true] rfl)) : p := h
set_option maxRecDepth 20000 in
theorem f5_ok (w : World) : Calls Tryz.prog 5 #[] w (Gives [] w fun v L => v = vB true ∧ L = []) := by
 refine calls_J [] 56 Tryz.func5 rfl Tryz.ntmps5 [] rfl rfl (Give.nil w) ?_
 refine q_ (g_ (s_ av_ (z_ (n_ (q_ (g_ (c0 (cl_ Ty.ca18) (fun w hS => f18_ok w) (s_ mv_ (s_ (ex_ 0) (s_ (ex_ 1) (o_ (al_ Ty.ze23 fun b1 => ?_))))))))))))
 refine o_ (al_ Ty.ze23 fun b2 => ?_)
 refine o_ (stG 1 Ty.sz23 ?_)
 refine o_ (stG 0 Ty.sz23 ?_)
 refine z_ (n_ (q_ (g_ (js_ (vG [vS [48, 48, 55], vS [48, 48, 55, 46, 46, 78, 89]]) (x_build (by kernel_rfl)) (o_ (O_buildSlice (cs := [vS [48, 48, 55], vS [48, 48, 55, 46, 46, 78, 89]]) Tryz.underlying42 Ty.sz54 Ty.ze54 (by decide) (by decide) (by kernel_rfl) fun b3 => ?_))))))
 refine js_ (vG [vI 3, vL (some ⟨b3, 0, none⟩) 1 1]) (x_build (by kernel_rfl)) (js_ (vG [vS [78, 89, 48, 48, 55], vS [78, 89, 48, 48, 55]]) (x_build (by kernel_rfl)) (o_ (O_buildSlice (cs := [vS [78, 89, 48, 48, 55], vS [78, 89, 48, 48, 55]]) Tryz.underlying42 Ty.sz54 Ty.ze54 (by decide) (by decide) (by kernel_rfl) fun b4 => ?_)))
 refine js_ (vG [vI 4, vL (some ⟨b4, 0, none⟩) 1 1]) (x_build (by kernel_rfl)) (o_ (O_buildSlice (cs := [vI 3, vL (some ⟨b3, 0, none⟩) 1 1, vI 4, vL (some ⟨b4, 0, none⟩) 1 1]) Tryz.underlying30 Ty.sz56 Ty.ze56 (by decide) (by decide) (by kernel_rfl) fun b5 => ?_))
 refine js_ (vG [vL (some ⟨b5, 0, none⟩) 2 2, Value.pointer none]) (x_build (by kernel_rfl)) (o_ (al_ Ty.ze33 fun b6 => ?_))
 refine o_ (stG 0 Ty.sz33 ?_)
 refine z_ (n_ (q_ (g_ (r_ (ldN 0 [vL (some ⟨b5, 0, none⟩) 2 2, Value.pointer none] Ty.ag33 Ty.sz33) (js_ (Value.iface 33 (vG [vL (some ⟨b5, 0, none⟩) 2 2, Value.pointer none])) (x_iface rfl (by kernel_rfl)) (r_ (ldN 5 (DataSet.enc R26.exBase) Ty.ag23 Ty.sz23) (r_ (ldN 4 (DataSet.enc R26.exAlt) Ty.ag23 Ty.sz23) (o_ (O_buildSlice (cs := (DataSet.enc R26.exAlt)) Tryz.underlying24 Ty.sz23 Ty.ze23 (by decide) (by decide) (by kernel_rfl) fun b7 => ?_)))))))))
 refine js_ (vG [vI 0, vI 3, vS [48, 48, 55], vS [48, 48, 55, 46, 46, 76, 65], vS []]) (x_build (by kernel_rfl)) ?_
 refine c1 (cl_ Ty.ca8) (fun w hS => f8_ok [(Data.mk 3 [(Pair.mk [48, 48, 55] [48, 48, 55, 46, 46, 78, 89])] (some ⟨b3, 0, none⟩) 1), (Data.mk 4 [(Pair.mk [78, 89, 48, 48, 55] [78, 89, 48, 48, 55])] (some ⟨b4, 0, none⟩) 1)] _ 2 _ [R26.exAlt] _ 1 (Change.mk 0 3 [48, 48, 55] [48, 48, 55, 46, 46, 76, 65] []) w (RO.of_blk hS 2 (off := 0) (m := 4) rfl rfl) (ron_cons (RO.of_blk hS 4 (off := 0) (m := 2) rfl rfl) (ron_cons (RO.of_blk hS 3 (off := 0) (m := 2) rfl rfl) (ron_nil RO.nil))) (RO.of_blk hS 0 (off := 0) (m := 21) rfl rfl) hy_ (by first | assumption | exact R27.pl_of_all rfl) hy_ hy_ hy_ (by first | assumption | exact R27.sh_of_all rfl)) ?_
 rintro _ _ ⟨A8, cc9, rfl, rfl⟩
 have ha10 := R27.plan_len [(Data.mk 3 [(Pair.mk [48, 48, 55] [48, 48, 55, 46, 46, 78, 89])] (some ⟨b3, 0, none⟩) 1), (Data.mk 4 [(Pair.mk [78, 89, 48, 48, 55] [78, 89, 48, 48, 55])] (some ⟨b4, 0, none⟩) 1)] R26.exBase [R26.exAlt] (Change.mk 0 3 [48, 48, 55] [48, 48, 55, 46, 46, 76, 65] [])
 try simp only [List.length_cons, List.length_nil, Nat.zero_add, Nat.reduceAdd, Nat.reduceMul] at ha10
 refine s_ mv_ (s_ (ex_ 0) (s_ (ex_ 1) (s_ av_ (s_ av_ (z_ (xk_ [0, 2, 3, 4, 5] ?_))))))
 refine n_ (q_ (g_ (r_ (ldN 2 [vL (some ⟨b5, 0, none⟩) 2 2, Value.pointer none] Ty.ag33 Ty.sz33) (js_ (Value.iface 33 (vG [vL (some ⟨b5, 0, none⟩) 2 2, Value.pointer none])) (x_iface rfl (by kernel_rfl)) (r_ (ldN 6 (DataSet.enc R26.exAlt) Ty.ag23 Ty.sz23) ?_)))))
 refine c1 (cl_ Ty.ca19) (fun w hS => f19_ok [(Data.mk 3 [(Pair.mk [48, 48, 55] [48, 48, 55, 46, 46, 78, 89])] (some ⟨b3, 0, none⟩) 1), (Data.mk 4 [(Pair.mk [78, 89, 48, 48, 55] [78, 89, 48, 48, 55])] (some ⟨b4, 0, none⟩) 1)] _ 2 _ [78, 89] 9 w (RO.of_blk hS 3 (off := 0) (m := 4) rfl rfl) (ron_cons (RO.of_blk hS 5 (off := 0) (m := 2) rfl rfl) (ron_cons (RO.of_blk hS 4 (off := 0) (m := 2) rfl rfl) (ron_nil RO.nil))) hy_ (by first | assumption | exact R27.pl_of_all rfl) hy_ (by first | assumption | exact R27.sh_of_all rfl)) ?_
 rintro _ _ ⟨A11, cc12, rfl, rfl⟩
 have ha13 := R27.find_len [(Data.mk 3 [(Pair.mk [48, 48, 55] [48, 48, 55, 46, 46, 78, 89])] (some ⟨b3, 0, none⟩) 1), (Data.mk 4 [(Pair.mk [78, 89, 48, 48, 55] [78, 89, 48, 48, 55])] (some ⟨b4, 0, none⟩) 1)] R26.exAlt [78, 89] 9
 try simp only [List.length_cons, List.length_nil, Nat.zero_add, Nat.reduceAdd, Nat.reduceMul] at ha13
 refine s_ mv_ (s_ (ex_ 0) (s_ (ex_ 1) (s_ av_ (s_ av_ (z_ (n_ (q_ (g_ (s_ mv_ (s_ (x_eql_i rfl rfl) (s_ mv_ ?_)))))))))))
 refine and_ 6 (decide (((R27.plan [(Data.mk 3 [(Pair.mk [48, 48, 55] [48, 48, 55, 46, 46, 78, 89])] (some ⟨b3, 0, none⟩) 1), (Data.mk 4 [(Pair.mk [78, 89, 48, 48, 55] [78, 89, 48, 48, 55])] (some ⟨b4, 0, none⟩) 1)] R26.exBase [R26.exAlt] (Change.mk 0 3 [48, 48, 55] [48, 48, 55, 46, 46, 76, 65] [])).1) = [(Change.mk 0 3 [48, 48, 55] [48, 48, 55, 46, 46, 76, 65] []), (Change.mk 1 4 [78, 89, 48, 48, 55] [] []), (Change.mk 0 4 [76, 65, 48, 48, 55] [76, 65, 48, 48, 55] [])])) (fun g14 => ?_) ?_
 ·have g14r := g14
  have g14r := of_decide_eq_true g14r
  refine sg_ g14 mv_ (jg_ g14 (vG [vI 0, vI 3, vS [48, 48, 55], vS [48, 48, 55, 46, 46, 76, 65], vS []]) (x_build (by kernel_rfl)) (jg_ g14 (vG [vI 1, vI 4, vS [78, 89, 48, 48, 55], vS [], vS []]) (x_build (by kernel_rfl)) (jg_ g14 (vG [vI 0, vI 4, vS [76, 65, 48, 48, 55], vS [76, 65, 48, 48, 55], vS []]) (x_build (by kernel_rfl)) (og_ g14 (O_buildSlice (cs := [vI 0, vI 3, vS [48, 48, 55], vS [48, 48, 55, 46, 46, 76, 65], vS [], vI 1, vI 4, vS [78, 89, 48, 48, 55], vS [], vS [], vI 0, vI 4, vS [76, 65, 48, 48, 55], vS [76, 65, 48, 48, 55], vS []]) Tryz.underlying25 Ty.sz27 Ty.ze27 (by decide) (by decide) (by kernel_rfl) fun b15 => ?_)))))
  refine c0g g14 (cl_ Ty.ca20) (fun w hS => f20_ok ((R27.plan [(Data.mk 3 [(Pair.mk [48, 48, 55] [48, 48, 55, 46, 46, 78, 89])] (some ⟨b3, 0, none⟩) 1), (Data.mk 4 [(Pair.mk [78, 89, 48, 48, 55] [78, 89, 48, 48, 55])] (some ⟨b4, 0, none⟩) 1)] R26.exBase [R26.exAlt] (Change.mk 0 3 [48, 48, 55] [48, 48, 55, 46, 46, 76, 65] [])).1) A8 cc9 [(Change.mk 0 3 [48, 48, 55] [48, 48, 55, 46, 46, 76, 65] []), (Change.mk 1 4 [78, 89, 48, 48, 55] [] []), (Change.mk 0 4 [76, 65, 48, 48, 55] [76, 65, 48, 48, 55] [])] _ 3 w (RO.of_row hS 2 rfl) (RO.of_blk hS 0 (off := 0) (m := 15) rfl rfl) hy_) ?_
  exact l27w0_
 refine s_ mv_ ?_
 refine and_ 2 (decide ((R27.find [(Data.mk 3 [(Pair.mk [48, 48, 55] [48, 48, 55, 46, 46, 78, 89])] (some ⟨b3, 0, none⟩) 1), (Data.mk 4 [(Pair.mk [78, 89, 48, 48, 55] [78, 89, 48, 48, 55])] (some ⟨b4, 0, none⟩) 1)] R26.exAlt [78, 89] 9).2 = 0)) (fun g16 => ?_) ?_
 ·have g16r := g16
  have ⟨g16r, h17⟩ := band_true g16r
  have g16r := of_decide_eq_true g16r
  refine sg_ g16 mv_ (sg_ g16 (x_eql_i rfl rfl) ?_)
  exact cr_
 refine s_ mv_ ?_
 refine and_ 3 (decide (((R27.find [(Data.mk 3 [(Pair.mk [48, 48, 55] [48, 48, 55, 46, 46, 78, 89])] (some ⟨b3, 0, none⟩) 1), (Data.mk 4 [(Pair.mk [78, 89, 48, 48, 55] [78, 89, 48, 48, 55])] (some ⟨b4, 0, none⟩) 1)] R26.exAlt [78, 89] 9).1) = [[48, 48, 55]])) (fun g18 => ?_) ?_
 ·have g18r := g18
  have ⟨g18r, h19⟩ := band_true g18r
  have ⟨g18r, h20⟩ := band_true g18r
  have g18r := of_decide_eq_true g18r
  have h19 := of_decide_eq_true h19
  refine sg_ g18 mv_ (og_ g18 (O_buildSlice (cs := [vS [48, 48, 55]]) Tryz.underlying40 Ty.sz9 Ty.ze9 (by decide) (by decide) (by kernel_rfl) fun b21 => ?_))
  refine c0g g18 (cl_ Ty.ca16) (fun w hS => f16_ok ((R27.find [(Data.mk 3 [(Pair.mk [48, 48, 55] [48, 48, 55, 46, 46, 78, 89])] (some ⟨b3, 0, none⟩) 1), (Data.mk 4 [(Pair.mk [78, 89, 48, 48, 55] [78, 89, 48, 48, 55])] (some ⟨b4, 0, none⟩) 1)] R26.exAlt [78, 89] 9).1) A11 cc12 [[48, 48, 55]] _ 1 w (RO.of_row hS 1 rfl) (RO.of_blk hS 0 (off := 0) (m := 1) rfl rfl) hy_) ?_
  exact l27w0_
 refine s_ av_ (z_ (xk_ [0] ?_))
 refine n_ (rt_ ?_)
 exact p1 Tryz.results5 rfl ⟨(eB (by kernel_rfl)), rfl⟩
end Go.Proofs.YtmbinhhlfbgiaaaGreat
