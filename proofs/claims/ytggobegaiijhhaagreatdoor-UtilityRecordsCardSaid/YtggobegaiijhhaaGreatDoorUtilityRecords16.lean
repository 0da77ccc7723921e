/- C45x, C45y in one text. -/
import Derived.Test.YtggobegaiijhhaaGreatDoorCards
import Derived.Test.YtggobegaiijhhaaGreatDoorTie
import Derived.Test.YtggobegaiijhhaaGreatDoorUtilityRecords15
import Derived.Test.YtggobegaiijhhaaGreatDoorC45b
import Derived.Test.YtggobegaiijhhaaGreatDoorRows
import GoSem.ClaimSeven
import Derived.LaidByTextLater
import Derived.SevenTiedAt
import Derived.LaidSub
import Derived.LaidOnce
set_option linter.unusedVariables false
set_option linter.unusedSimpArgs false
namespace Go.Proofs.YtggobegaiijhhaaGreatDoor
open Go.GV
set_option linter.unusedVariables false
set_option linter.unusedSimpArgs false
theorem c45x0_ {p : Prop} (h : p := by first | exact R45.eq_len (by omega) | exact R45.eq_bad (i := k) (by assumption) | exact R45.eq_end i1_1 (fun i hi => i1_2 i (by omega))) : p := h
theorem aw_gen (s : Nat) (rows : List SRow) (rowsA : Option Addr) (rowsC : Nat) (calls : Nat) (l : List Binding) (lA : Option Addr) (lC : Nat) (w : World) (rowsR : RO [s] w rowsA (rows.flatMap SRow.enc)) (lR : RO [s] w lA (l.flatMap Binding.enc)) (lN : Kp [s] w (okL Binding.ok l)) (hT : Tab [s] w) (q0 : rows = []) (q1 : calls ≤ 890000) (q2 : l = [R45.freshB [79, 85, 84] 200]) (hg : Give [s] w [Ent.blk s 52 [vL rowsA rows.length rowsC, vI 0, vI 0, vI ((calls : Nat) : Int)]]) : Calls Tryz.prog 15 #[Value.iface 41 (pB s 0), vS [103, 101, 110, 101, 114, 97, 116, 101], vS [50, 32, 65], vL lA l.length lC] w (Gives [s] w fun v L => ∃ cd : Int, ∃ fd : Bool, ∃ ch : List Change, ∃ chA : Option Addr, ∃ chC : Nat, ∃ ln : List Bytes, ∃ lnA : Option Addr, ∃ lnC : Nat, v = Value.tuple #[vG [vI cd, vB fd, vL chA ch.length chC, vL lnA ln.length lnC], vI 0] ∧ L = [Ent.row (.slice chA ch.length chC) 60 5 ch.length (ch.flatMap Change.enc), Ent.row (.slice lnA ln.length lnC) 9 1 ln.length (ln.map vS)] ∧ (ch.length = 2) ∧ ((ch.getD 1 default).Record = [65, 48, 48, 48, 50])) := by
 subst q0 q2
 refine (run_generate (s := s) (parm := [50, 32, 65]) (rows := _) (rowsA := rowsA) (rowsC := rowsC) (calls := calls) (l := _) (lA := lA) (lC := lC) (w := w) rowsR lR lN hT (by decide) q1 R45.dist_nil (by simp) (by simp) (by decide) (by decide) (R45.lines_all (by intro b hb; rw [List.mem_singleton.1 hb]; exact Nat.zero_le _)) (R45.lines_each (by intro b hb; rw [List.mem_singleton.1 hb]; intro s hs; cases hs)) hg).mono ?_
 rintro e w' ⟨v, L', h1, ⟨cd, fd, ch, chA, chC, ln, lnA, lnC, hv, hL, hf⟩, hS⟩
 exact ⟨v, L', h1, ⟨cd, fd, ch, chA, chC, ln, lnA, lnC, hv, hL, (R45.awG hf).1, (R45.awG hf).2⟩, hS⟩
theorem aw_cmp (s : Nat) (rows : List SRow) (rowsA : Option Addr) (rowsC : Nat) (calls : Nat) (l : List Binding) (lA : Option Addr) (lC : Nat) (w : World) (rowsR : RO [s] w rowsA (rows.flatMap SRow.enc)) (lR : RO [s] w lA (l.flatMap Binding.enc)) (lN : Kp [s] w (okL Binding.ok l)) (hT : Tab [s] w) (q0 : rows = []) (q1 : calls ≤ 890000) (q2 : ∃ A C c d, l = [R45.inlineB [73, 78, 49] [[97], [98]] A c, R45.inlineB [73, 78, 50] [[97], [99]] C d]) (hg : Give [s] w [Ent.blk s 52 [vL rowsA rows.length rowsC, vI 0, vI 0, vI ((calls : Nat) : Int)]]) : Calls Tryz.prog 15 #[Value.iface 41 (pB s 0), vS [99, 111, 109, 112, 97, 114, 101], vS [], vL lA l.length lC] w (Gives [s] w fun v L => ∃ cd : Int, ∃ fd : Bool, ∃ ch : List Change, ∃ chA : Option Addr, ∃ chC : Nat, ∃ ln : List Bytes, ∃ lnA : Option Addr, ∃ lnC : Nat, v = Value.tuple #[vG [vI cd, vB fd, vL chA ch.length chC, vL lnA ln.length lnC], vI 0] ∧ L = [Ent.row (.slice chA ch.length chC) 60 5 ch.length (ch.flatMap Change.enc), Ent.row (.slice lnA ln.length lnC) 9 1 ln.length (ln.map vS)] ∧ (cd = 4) ∧ (ln.length = 1) ∧ (ln.getD 0 [] = [100, 105, 102, 102, 101, 114, 101, 110, 116, 32, 97, 116, 32, 50])) := by
 obtain ⟨A, C, c, d, rfl⟩ := q2
 subst q0
 refine (run_compare (s := s) (parm := []) (rows := _) (rowsA := rowsA) (rowsC := rowsC) (calls := calls) (l := _) (lA := lA) (lC := lC) (w := w) rowsR lR lN hT (by decide) q1 R45.dist_nil (by simp) (by simp) (by decide) (by show 2 ≤ 1000; decide) (R45.lines_all (by intro b hb; rcases List.mem_cons.1 hb with rfl | hb <;> first | exact (show 2 ≤ 1000 by decide) | (rw [List.mem_singleton.1 hb]; exact (show 2 ≤ 1000 by decide)))) (R45.lines_each (by intro b hb; rcases List.mem_cons.1 hb with rfl | hb <;> first | exact (show ∀ s ∈ ([[97], [98]] : List Bytes), s.length ≤ 1000000 by decide) | (rw [List.mem_singleton.1 hb]; exact (show ∀ s ∈ ([[97], [99]] : List Bytes), s.length ≤ 1000000 by decide)))) hg).mono ?_
 rintro e w' ⟨v, L', h1, ⟨cd, fd, ch, chA, chC, ln, lnA, lnC, hv, hL, hf⟩, hS⟩
 exact ⟨v, L', h1, ⟨cd, fd, ch, chA, chC, ln, lnA, lnC, hv, hL, (R45.awC hf).1, (R45.awC hf).2.1, (R45.awC hf).2.2⟩, hS⟩
set_option maxRecDepth 20000 in
theorem f22_ok (w : World) : Calls Tryz.prog 22 #[] w (Gives [] w fun v L => ∃ A : Option Addr, ∃ c : Nat, v = vL A 11 c ∧ L = []) := by
 refine calls_J [] 4 Tryz.func22 rfl Tryz.ntmps22 [] rfl rfl (Give.nil w) ?_
 refine q_ (g_ (s_ av_ (z_ (n_ (q_ (g_ ?_))))))
 refine c1 (cl_ Ty.ca32) (fun w hS => f32_ok w) ?_
 rintro _ _ ⟨pm1, tb2, rfl, rfl⟩
 refine c1 (cl_ Ty.ca31) (fun w hS => keys_ok pm1 w) ?_
 rintro _ _ ⟨p3, rfl, rfl⟩
 refine JO_call [pm1, p3] [Ent.mp vS pm1 [([97, 98, 101, 110, 100], Value.func (.func 44) #[] #[pB tb2 0]), ([99, 111, 100, 101], Value.func (.func 47) #[] #[]), ([99, 111, 109, 112, 97, 114, 101], Value.func (.func 51) #[] #[pB tb2 0]), ([99, 111, 112, 121], Value.func (.func 54) #[] #[pB tb2 0]), ([99, 111, 117, 110, 116], Value.func (.func 57) #[] #[pB tb2 0]), ([101, 114, 97, 115, 101], Value.func (.func 61) #[] #[pB tb2 0]), ([103, 101, 110, 101, 114, 97, 116, 101], Value.func (.func 64) #[] #[]), ([109, 101, 114, 103, 101], Value.func (.func 65) #[] #[]), ([112, 114, 105, 110, 116], Value.func (.func 66) #[] #[pB tb2 0]), ([115, 101, 108, 101, 99, 116], Value.func (.func 69) #[] #[]), ([115, 111, 114, 116], Value.func (.func 70) #[] #[])], Ent.blk p3 89 [Value.map (some pm1)]] [Ent.blk tb2 94 [Value.func (.func 43) #[] #[]]] rfl trivial (fun _ => x_call Ty.ca30 rfl) (fun _ h => (((h.front 2 _ rfl).front 1 _ rfl).front 2 _ rfl).keep [true, true, true] rfl) (own_mem rfl) (fun w hS => sorted_ok pm1 p3 [([97, 98, 101, 110, 100], Value.func (.func 44) #[] #[pB tb2 0]), ([99, 111, 100, 101], Value.func (.func 47) #[] #[]), ([99, 111, 109, 112, 97, 114, 101], Value.func (.func 51) #[] #[pB tb2 0]), ([99, 111, 112, 121], Value.func (.func 54) #[] #[pB tb2 0]), ([99, 111, 117, 110, 116], Value.func (.func 57) #[] #[pB tb2 0]), ([101, 114, 97, 115, 101], Value.func (.func 61) #[] #[pB tb2 0]), ([103, 101, 110, 101, 114, 97, 116, 101], Value.func (.func 64) #[] #[]), ([109, 101, 114, 103, 101], Value.func (.func 65) #[] #[]), ([112, 114, 105, 110, 116], Value.func (.func 66) #[] #[pB tb2 0]), ([115, 101, 108, 101, 99, 116], Value.func (.func 69) #[] #[]), ([115, 111, 114, 116], Value.func (.func 70) #[] #[])] w (by simp only [List.map_cons, List.map_nil]; decide) (by simp only [List.map_cons, List.map_nil]; decide) (by simp only [List.map_cons, List.map_nil]; decide) (hS.give (own_in rfl))) ?_
 rintro _ _ ⟨A4, c5, ss6, rfl, rfl, hf7⟩
 try simp only [List.length_cons, List.length_nil, Nat.zero_add, Nat.reduceAdd] at hf7
 refine s_ av_ (z_ (n_ (rt_ ?_)))
 refine p1 Tryz.results22 rfl ⟨A4, c5, ?_, rfl⟩
 have e_x0 : (ss6.length : Nat) = 11 := by assumption
 exact congrArg (fun (x0 : Nat) => vL A4 x0 c5) e_x0
set_option maxRecDepth 20000 in
theorem f14_ok (a : List Bytes) (aA : Option Addr) (aC : Nat) (b : List Bytes) (bA : Option Addr) (bC : Nat) (w : World) (aR : RO [] w aA (a.map vS)) (bR : RO [] w bA (b.map vS)) (q0 : a.length ≤ 9223372036854775807) (q1 : b.length ≤ 9223372036854775807) : Calls Tryz.prog 14 #[vL aA a.length aC, vL bA b.length bC] w (Gives [] w fun v L => v = vB (decide (a = b)) ∧ L = []) := by
 refine calls_J [] 26 Tryz.func14 rfl Tryz.ntmps14 [(0, _), (1, _)] rfl rfl (Give.nil w) ?_
 refine q_ (g_ (s_ av_ (z_ (n_ (q_ (q_ (g_ (s_ mv_ (s_ (lnS Tryz.underlying25) (s_ mv_ (s_ (lnS Tryz.underlying25) (s_ (x_neq_i rfl rfl) (z_ (n_ ?_))))))))))))))
 refine ifd (fun h1w h1 => ?_) (fun h1w h1 => ?_)
 ·refine q_ (g_ (s_ av_ (z_ (n_ (rt_ (nr_ ?_))))))
  exact p1 Tryz.results14 rfl ⟨(eB c45x0_), rfl⟩
 ·refine sk_ (n_ (q_ (q_ (g_ (s_ av_ (z_ (n_ (k_ ?_))))))))
  refine J_loop (X := Nat) (fun (k : Nat) => (k ≤ a.length) ∧ (a.length = b.length) ∧ (∀ i, i < k → a.getD i [] = b.getD i [])) (fun (k : Nat) => [(0, vL aA a.length aC), (1, vL bA b.length bC), (5, vI ((k : Nat) : Int))]) (fun (k : Nat) => []) (fun (k : Nat) => a.length - k) (0 : Nat) ?_ ⟨rfl, rfl, rfl, trivial⟩ (fun _ h => h) ?_
  ·try dsimp only
   refine ⟨?_, ?_, ?_⟩
   ·first | rfl | omega | (simp_all; done) | (simp_all; omega)
   ·omega
   ·intro i hi; omega
  intro k hI1
  obtain ⟨i1_0, i1_1, i1_2⟩ := hI1
  try dsimp only at i1_0
  try dsimp only at i1_1
  try dsimp only at i1_2
  try dsimp only
  refine q_ (q_ (g_ (s_ mv_ (s_ mv_ (s_ (lnS Tryz.underlying25) (s_ (x_lss_i rfl rfl) (z_ (n_ ?_))))))))
  refine ifd (fun h2w h2 => ?_) (fun h2w h2 => ?_)
  ·refine sk_ (n_ (q_ (k_ (q_ ?_))))
   refine drB [] 9 Ty.mixed ?_
   refine jp_ 0 rfl mv_ (jp_ 1 rfl mv_ (jq_ 2 rfl (ixM (cells_ro aR) Tryz.underlying25 Ty.sz9) (jq_ 3 rfl (ldM vS [] (cells_ro aR) Ty.sc9) (jp_ 4 rfl mv_ (jp_ 5 rfl mv_ (jq_ 6 rfl (ixM (cells_ro bR) Tryz.underlying25 Ty.sz9) (jq_ 7 rfl (ldM vS [] (cells_ro bR) Ty.sc9) (jp_ 8 rfl (x_neq_s rfl rfl) ?_))))))))
   refine JA_done (by kernel_rfl) gm_ ?_
   refine n_ ?_
   refine ifd (fun h3w h3 => ?_) (fun h3w h3 => ?_)
   ·refine q_ (g_ (s_ av_ (z_ (n_ (rt_ (kq_ (nr_ (rr_ (kq_ (nr_ ?_))))))))))
    exact p1 Tryz.results14 rfl ⟨(eB c45x0_), rfl⟩
   ·refine sk_ (kx_ (n_ (g_ (s_ mv_ (s_ (x_add_n (a := k) (b := 1) rfl rfl (by omega)) (s_ av_ (z_ ?_)))))))
    refine JX_round (k + 1 : Nat) ?_ ?_ ⟨rfl, rfl, rfl, trivial⟩ (fun _ h => h)
    ·try dsimp only
     refine ⟨?_, ?_, ?_⟩
     ·first | rfl | omega | (simp_all; done) | (simp_all; omega)
     ·first | rfl | omega | (simp_all; done) | (simp_all; omega)
     ·intro i hi
      by_cases hik : i = k
      ·subst hik; simp_all
      ·exact i1_2 i (by omega)
    ·try dsimp only
     first | omega | (simp; omega) | (simp_all; omega)
  ·refine J_exit (ne_ (re_ (kh_ (n_ (q_ ?_)))))
   refine g_ (s_ av_ (z_ (n_ (rt_ ?_))))
   exact p1 Tryz.results14 rfl ⟨(eB c45x0_), rfl⟩
set_option maxRecDepth 20000 in
theorem f8_ok (w : World) (hT : Tab [] w) : Calls Tryz.prog 8 #[] w (Gives [] w fun v L => v = vB true ∧ L = []) := by
 refine calls_J [] 86 Tryz.func8 rfl Tryz.ntmps8 [] rfl rfl (Give.nil w) ?_
 refine q_ (g_ (s_ av_ (z_ (n_ (q_ (g_ ?_))))))
 refine c1 (cl_ Ty.ca12) (fun w hS => f12_ok ([] : List SRow) none 0 w RO.nil) ?_
 rintro _ _ ⟨s1, rfl, rfl⟩
 refine js_ (Value.iface 41 (pB s1 0)) (x_iface rfl (by kernel_rfl)) (c0 (cl_ Ty.ca17) (fun w hS => f17_ok [79, 85, 84] 200 w) (o_ (O_buildSlice (cs := (Binding.enc (R45.freshB [79, 85, 84] 200))) Tryz.underlying36 Ty.sz33 Ty.ze33 (by decide) (by decide) (by kernel_rfl) fun b2 => ?_)))
 refine JO_call [s1] [Ent.blk s1 52 [vL none (([] : List SRow).length) 0, vI 0, vI 0, vI ((0 : Nat) : Int)]] [Ent.blk b2 33 (Binding.enc (R45.freshB [79, 85, 84] 200))] rfl trivial (fun _ => x_call Ty.ca15 rfl) (fun _ h => (h.front 1 _ rfl).keep [true, true] rfl) (own_mem rfl) (fun w hS => aw_gen s1 ([] : List SRow) none 0 0 [(R45.freshB [79, 85, 84] 200)] (some ⟨b2, 0, none⟩) 1 w RO.nil (RO.of_blkS hS (own_mem rfl) 0 (off := 0) (m := 91) rfl rfl) (okL_cons (fresh_kp _ _) (Binding.ok_none)) (hT.on hS (own_mem rfl)) (by rfl) hy_ (by rfl) (hS.give (own_in rfl))) ?_
 rintro _ _ ⟨cd3, fd4, ch5, chA6, chC7, ln8, lnA9, lnC10, rfl, rfl, hf11, hf12⟩
 refine s_ mv_ (s_ (ex_ 0) (s_ (ex_ 1) (o_ (al_ Ty.ze48 fun b13 => ?_))))
 refine o_ (stG 0 Ty.sz48 ?_)
 refine s_ av_ (z_ (n_ (q_ (g_ ?_))))
 refine c1 (cl_ Ty.ca12) (fun w hS => f12_ok ([] : List SRow) none 0 w RO.nil) ?_
 rintro _ _ ⟨s14, rfl, rfl⟩
 refine js_ (Value.iface 41 (pB s14 0)) (x_iface rfl (by kernel_rfl)) (o_ (O_buildSlice (cs := [vS [97], vS [98]]) Tryz.underlying25 Ty.sz9 Ty.ze9 (by decide) (by decide) (by kernel_rfl) fun b15 => ?_))
 refine c0 (cl_ Ty.ca18) (fun w hS => f18_ok [73, 78, 49] [[97], [98]] _ 2 w (RO.of_blk hS 0 (off := 0) (m := 2) rfl rfl)) (o_ (O_buildSlice (cs := [vS [97], vS [99]]) Tryz.underlying25 Ty.sz9 Ty.ze9 (by decide) (by decide) (by kernel_rfl) fun b16 => ?_))
 refine c0 (cl_ Ty.ca18) (fun w hS => f18_ok [73, 78, 50] [[97], [99]] _ 2 w (RO.of_blk hS 0 (off := 0) (m := 2) rfl rfl)) (o_ (O_buildSlice (cs := (Binding.enc (R45.inlineB [73, 78, 49] [[97], [98]] (some ⟨b15, 0, none⟩) 2) ++ Binding.enc (R45.inlineB [73, 78, 50] [[97], [99]] (some ⟨b16, 0, none⟩) 2))) Tryz.underlying36 Ty.sz33 Ty.ze33 (by decide) (by decide) (by kernel_rfl) fun b17 => ?_))
 refine JO_call [s14] [Ent.blk s14 52 [vL none (([] : List SRow).length) 0, vI 0, vI 0, vI ((0 : Nat) : Int)]] [Ent.blk b17 33 (Binding.enc (R45.inlineB [73, 78, 49] [[97], [98]] (some ⟨b15, 0, none⟩) 2) ++ Binding.enc (R45.inlineB [73, 78, 50] [[97], [99]] (some ⟨b16, 0, none⟩) 2)), Ent.blk b16 9 [vS [97], vS [99]], Ent.blk b15 9 [vS [97], vS [98]], Ent.blk b13 48 [vI cd3, vB fd4, vL chA6 ch5.length chC7, vL lnA9 ln8.length lnC10], Ent.row (.slice chA6 ch5.length chC7) 60 5 ch5.length (ch5.flatMap Change.enc), Ent.row (.slice lnA9 ln8.length lnC10) 9 1 ln8.length (ln8.map vS), Ent.blk b2 33 (Binding.enc (R45.freshB [79, 85, 84] 200))] rfl trivial (fun _ => x_call Ty.ca15 rfl) (fun _ h => ((((((((h.front 7 _ rfl).front 7 _ rfl).front 7 _ rfl).front 7 _ rfl).front 6 _ rfl).front 6 _ rfl).front 6 _ rfl).front 7 _ rfl).keep [true, true, true, true, true, true, true, true] rfl) (own_mem rfl) (fun w hS => aw_cmp s14 ([] : List SRow) none 0 0 [(R45.inlineB [73, 78, 49] [[97], [98]] (some ⟨b15, 0, none⟩) 2), (R45.inlineB [73, 78, 50] [[97], [99]] (some ⟨b16, 0, none⟩) 2)] (some ⟨b17, 0, none⟩) 2 w RO.nil (RO.of_blkS hS (own_mem rfl) 0 (off := 0) (m := 182) rfl rfl) (okL_cons (inline_kp (RO.of_blkS hS (own_mem rfl) 2 (off := 0) (m := 2) rfl rfl)) (okL_cons (inline_kp (RO.of_blkS hS (own_mem rfl) 1 (off := 0) (m := 2) rfl rfl)) (Binding.ok_none))) (hT.on hS (own_mem rfl)) (by rfl) hy_ (by exact ⟨_, _, _, _, rfl⟩) (hS.give (own_in rfl))) ?_
 rintro _ _ ⟨cd18, fd19, ch20, chA21, chC22, ln23, lnA24, lnC25, rfl, rfl, hf26, hf27, hf28⟩
 refine s_ mv_ (s_ (ex_ 0) (s_ (ex_ 1) (o_ (al_ Ty.ze48 fun b29 => ?_))))
 refine o_ (stG 0 Ty.sz48 ?_)
 refine s_ av_ (z_ (xk_ [0, 1, 2, 3, 4] ?_))
 refine n_ (q_ (g_ ?_))
 refine c1 (cl_ Ty.ca12) (fun w hS => f12_ok ([] : List SRow) none 0 w RO.nil) ?_
 rintro _ _ ⟨s30, rfl, rfl⟩
 refine js_ (Value.iface 41 (pB s30 0)) (x_iface rfl (by kernel_rfl)) (o_ (O_buildSlice (cs := [vS [97]]) Tryz.underlying25 Ty.sz9 Ty.ze9 (by decide) (by decide) (by kernel_rfl) fun b31 => ?_))
 refine c0 (cl_ Ty.ca18) (fun w hS => f18_ok [73, 78] [[97]] _ 1 w (RO.of_blk hS 0 (off := 0) (m := 1) rfl rfl)) ?_
 refine JO_call [s30] [Ent.blk s30 52 [vL none (([] : List SRow).length) 0, vI 0, vI 0, vI ((0 : Nat) : Int)]] [Ent.blk b31 9 [vS [97]], Ent.blk b29 48 [vI cd18, vB fd19, vL chA21 ch20.length chC22, vL lnA24 ln23.length lnC25], Ent.row (.slice chA21 ch20.length chC22) 60 5 ch20.length (ch20.flatMap Change.enc), Ent.row (.slice lnA24 ln23.length lnC25) 9 1 ln23.length (ln23.map vS), Ent.blk b17 33 (Binding.enc (R45.inlineB [73, 78, 49] [[97], [98]] (some ⟨b15, 0, none⟩) 2) ++ Binding.enc (R45.inlineB [73, 78, 50] [[97], [99]] (some ⟨b16, 0, none⟩) 2)), Ent.blk b16 9 [vS [97], vS [99]], Ent.blk b15 9 [vS [97], vS [98]], Ent.blk b13 48 [vI cd3, vB fd4, vL chA6 ch5.length chC7, vL lnA9 ln8.length lnC10], Ent.row (.slice chA6 ch5.length chC7) 60 5 ch5.length (ch5.flatMap Change.enc), Ent.row (.slice lnA9 ln8.length lnC10) 9 1 ln8.length (ln8.map vS), Ent.blk b2 33 (Binding.enc (R45.freshB [79, 85, 84] 200))] rfl trivial (fun _ => x_call Ty.ca11 rfl) (fun _ h => ((((((((((((h.front 11 _ rfl).front 11 _ rfl).front 11 _ rfl).front 11 _ rfl).front 11 _ rfl).front 11 _ rfl).front 11 _ rfl).front 11 _ rfl).front 11 _ rfl).front 11 _ rfl).front 10 _ rfl).front 11 _ rfl).keep [true, true, true, true, true, true, true, true, true, true, true, true] rfl) (own_mem rfl) (fun w hS => f11_ok s30 ([] : List SRow) none 0 0 (R45.inlineB [73, 78] [[97]] (some ⟨b31, 0, none⟩) 1) w RO.nil (inline_kp (RO.of_blkS hS (own_mem rfl) 0 (off := 0) (m := 1) rfl rfl)) hy_ hy_ (by exact R45.dist_nil) (by show 1 ≤ 1000; decide) (hS.give (own_in rfl))) ?_
 rintro _ _ ⟨out32, outA33, outC34, e35, rfl, rfl, hf36, hf37⟩
 try simp only [List.length_cons, List.length_nil, Nat.zero_add, Nat.reduceAdd] at hf37
 have ha38 := R45.aw_rec (by assumption)
 refine s_ mv_ (s_ (ex_ 0) (s_ (ex_ 1) (s_ av_ (s_ av_ (z_ (n_ (q_ (g_ (s_ mv_ (jr_ (vB true) (s_ mv_ (sg_ rfl (fA 2 Ty.fi48_2) ?_))))))))))))
 refine rg_ rfl (ld_ 9 Ty.sc46) (sg_ rfl (lnS Tryz.underlying46) (sg_ rfl (x_eql_i rfl rfl) (jr_ (vB (decide (((ch5.length : Nat) : Int) = 2))) (s_ mv_ ?_))))
 refine and_ 6 (decide ((ch5.getD 1 default).Record = ([65, 48, 48, 48, 50] : Bytes))) (fun g39 => ?_) ?_
 ·have g39r := g39
  have g39r := of_decide_eq_true g39r
  refine sg_ g39 (fA 2 Ty.fi48_2) (rg_ g39 (ld_ 9 Ty.sc46) (rg_ g39 (ixF (k := 1) Change.enc_len (cells_row 10 rfl) Tryz.underlying46 Ty.sz60) (sg_ g39 (x_fieldAddr Ty.fi60_3 rfl (adr_add _ _ _)) (rg_ g39 (ldF (k := 1) 3 Change.enc_len (cells_row 10 rfl) Ty.sc9) (jg_ g39 (vB (decide ((ch5.getD 1 default).Record = ([65, 48, 48, 48, 50] : Bytes)))) (x_eql_s rfl rfl) ?_)))))
  exact cr_
 refine s_ mv_ ?_
 refine and_ 2 (true) (fun g40 => ?_) ?_
 ·have g40r := g40
  have ⟨g40r, h41⟩ := band_true g40r
  have g40r := of_decide_eq_true g40r
  have h41 := of_decide_eq_true h41
  refine sg_ g40 mv_ (jg_ g40 (vB true) (rfl) ?_)
  exact cr_
 refine s_ mv_ ?_
 refine and_ 3 (decide (cd18 = 4)) (fun g42 => ?_) ?_
 ·have g42r := g42
  have ⟨g42r, h43⟩ := band_true g42r
  have ⟨g42r, h44⟩ := band_true g42r
  have g42r := of_decide_eq_true g42r
  have h44 := of_decide_eq_true h44
  refine sg_ g42 (fA 0 Ty.fi48_0) (rg_ g42 (ld_ 3 Ty.sc3) (sg_ g42 (x_eql_i rfl rfl) ?_))
  exact cr_
 refine s_ mv_ ?_
 refine and_ 4 (decide (((ln23.length : Nat) : Int) = 1)) (fun g45 => ?_) ?_
 ·have g45r := g45
  have ⟨g45r, h46⟩ := band_true g45r
  have ⟨g45r, h47⟩ := band_true g45r
  have ⟨g45r, h48⟩ := band_true g45r
  have g45r := of_decide_eq_true g45r
  have h48 := of_decide_eq_true h48
  have h46 := of_decide_eq_true h46
  refine sg_ g45 (fA 3 Ty.fi48_3) (rg_ g45 (ld_ 3 Ty.sc25) (sg_ g45 (lnS Tryz.underlying25) (sg_ g45 (x_eql_i rfl rfl) ?_)))
  exact cr_
 refine s_ mv_ ?_
 refine and_ 5 (decide ((ln23.getD 0 []) = ([100, 105, 102, 102, 101, 114, 101, 110, 116, 32, 97, 116, 32, 50] : Bytes))) (fun g49 => ?_) ?_
 ·have g49r := g49
  have ⟨g49r, h50⟩ := band_true g49r
  have ⟨g49r, h51⟩ := band_true g49r
  have ⟨g49r, h52⟩ := band_true g49r
  have ⟨g49r, h53⟩ := band_true g49r
  have g49r := of_decide_eq_true g49r
  have h53 := of_decide_eq_true h53
  have h51 := of_decide_eq_true h51
  have h50 := of_decide_eq_true h50
  refine sg_ g49 (fA 3 Ty.fi48_3) (rg_ g49 (ld_ 3 Ty.sc25) (rg_ g49 (ixM (k := 0) (cells_row 5 rfl) Tryz.underlying25 Ty.sz9) (rg_ g49 (ldM vS [] (cells_row 5 rfl) Ty.sc9) (jg_ g49 (vB (decide ((ln23.getD 0 []) = ([100, 105, 102, 102, 101, 114, 101, 110, 116, 32, 97, 116, 32, 50] : Bytes)))) (x_eql_s rfl rfl) ?_))))
  exact cr_
 refine s_ mv_ ?_
 refine and_ 2 (true) (fun g54 => ?_) ?_
 ·have g54r := g54
  have ⟨g54r, h55⟩ := band_true g54r
  have ⟨g54r, h56⟩ := band_true g54r
  have ⟨g54r, h57⟩ := band_true g54r
  have ⟨g54r, h58⟩ := band_true g54r
  have ⟨g54r, h59⟩ := band_true g54r
  have g54r := of_decide_eq_true g54r
  have h59 := of_decide_eq_true h59
  have h57 := of_decide_eq_true h57
  have h56 := of_decide_eq_true h56
  have h55 := of_decide_eq_true h55
  refine sg_ g54 mv_ (jg_ g54 (vB true) (rfl) ?_)
  exact cr_
 refine s_ mv_ ?_
 refine and_ 3 (decide (((out32.length : Nat) : Int) = 1)) (fun g60 => ?_) ?_
 ·have g60r := g60
  have ⟨g60r, h61⟩ := band_true g60r
  have ⟨g60r, h62⟩ := band_true g60r
  have ⟨g60r, h63⟩ := band_true g60r
  have ⟨g60r, h64⟩ := band_true g60r
  have ⟨g60r, h65⟩ := band_true g60r
  have ⟨g60r, h66⟩ := band_true g60r
  have g60r := of_decide_eq_true g60r
  have h66 := of_decide_eq_true h66
  have h64 := of_decide_eq_true h64
  have h63 := of_decide_eq_true h63
  have h62 := of_decide_eq_true h62
  refine sg_ g60 mv_ (sg_ g60 (lnS Tryz.underlying25) (sg_ g60 (x_eql_i rfl rfl) ?_))
  exact cr_
 refine s_ mv_ ?_
 refine and_ 3 (true) (fun g67 => ?_) ?_
 ·have g67r := g67
  have ⟨g67r, h68⟩ := band_true g67r
  have ⟨g67r, h69⟩ := band_true g67r
  have ⟨g67r, h70⟩ := band_true g67r
  have ⟨g67r, h71⟩ := band_true g67r
  have ⟨g67r, h72⟩ := band_true g67r
  have ⟨g67r, h73⟩ := band_true g67r
  have ⟨g67r, h74⟩ := band_true g67r
  have g67r := of_decide_eq_true g67r
  have h74 := of_decide_eq_true h74
  have h72 := of_decide_eq_true h72
  have h71 := of_decide_eq_true h71
  have h70 := of_decide_eq_true h70
  have h68 := of_decide_eq_true h68
  refine c1g g67 (cl_ Ty.ca22) (fun w hS => f22_ok w) ?_
  rintro _ _ ⟨A75, c76, rfl, rfl⟩
  refine sg_ g67 (lnS Tryz.underlying25) (jg_ g67 (vB true) (rfl) ?_)
  exact cr_
 refine s_ av_ (z_ (xk_ [0] ?_))
 refine n_ (rt_ ?_)
 exact p1 Tryz.results8 rfl ⟨(eB (by first | rfl | omega | (simp_all; done) | (simp_all; omega))), rfl⟩
end Go.Proofs.YtggobegaiijhhaaGreatDoor

namespace Go.Proofs.YtggobegaiijhhaaGreatDoor
open Go.GV
set_option linter.unusedVariables false
set_option linter.unusedSimpArgs false
theorem c45y0_ {p : Prop} (h : p := by have := (R45.few_use (by assumption) (by assumption)).1.1; omega) : p := h
theorem c45y1_ {p : Prop} (h : p := by have := ((R45.few_use (by assumption) (by assumption)).2.2 0).1; exact Nat.le_trans this (by decide)) : p := h
set_option maxRecDepth 20000 in
theorem f3_ok (rows : List SRow) (rowsA : Option Addr) (rowsC : Nat) (b : Binding) (w : World) (rowsR : RO [] w rowsA (rows.flatMap SRow.enc)) (bN : Kp [] w (Binding.ok b)) (hT : Tab [] w) (q0 : rows.length ≤ 9223372036854775807) (q1 : b.Lines.length ≤ 9223372036854775807) : Calls Tryz.prog 3 #[vL rowsA rows.length rowsC, vG (Binding.enc b)] w (Gives [] w fun v L => v = vB true ∧ L = []) := by
 refine calls_J [] 40 Tryz.func3 rfl Tryz.ntmps3 [(0, _), (1, _)] rfl rfl (Give.nil w) ?_
 refine q_ (g_ (o_ (bxG fun b1 => ?_)))
 refine s_ av_ (z_ (n_ (q_ (q_ (g_ (c0 (cl_ Ty.ca8) (fun w hS => f8_ok w (hT.on hS (fun _ h => by cases h))) (jr_ (vB false) (z_ (n_ (iff_ (sk_ (n_ (q_ (q_ (g_ (s_ mv_ (r_ (ldN 0 (Binding.enc b) Ty.ag33 Ty.sz33) (o_ (O_buildSlice (cs := (Binding.enc b)) Tryz.underlying36 Ty.sz33 Ty.ze33 (by decide) (by decide) (by kernel_rfl) fun b2 => ?_)))))))))))))))))))
 refine c1 (cl_ Ty.ca9) (fun w hS => f9_ok rows _ _ [b] _ 1 w (rno rowsR hS) (RO.of_blk hS 0 (off := 0) (m := 91) rfl rfl) (okL_cons (bN.on0 hS) (Binding.ok_none)) hy_ hy_ (by intro i; cases i with
| zero => exact q1
| succ i => exact Nat.zero_le _)) ?_
 rintro _ _ ⟨z3, rfl, rfl, hf4⟩
 refine s_ (x_not rfl) (z_ (n_ ?_))
 refine if_ (fun h5 => ?_) (fun h5 => ?_)
 ·have h5w := h5
  have h5 : (z3) = false := bnot_true h5
  refine q_ (g_ (s_ av_ (z_ (n_ (rt_ (nr_ ?_))))))
  exact p1 Tryz.results3 rfl ⟨rfl, rfl⟩
 ·have h5w := h5
  have h5 : (z3) = true := bnot_false h5
  refine sk_ (n_ (q_ (g_ (s_ mv_ ?_))))
  refine c1 (cl_ Ty.ca10) (fun w hS => f10_ok rows _ _ w (rno rowsR hS) c45y0_) ?_
  rintro _ _ ⟨out6, outA7, outC8, rfl, rfl, hf9⟩
  have ha10 := R45.dist_use (by assumption)
  have ha11 := (R45.few_use (by assumption) (by assumption)).1.1
  refine s_ av_ (z_ (n_ (q_ ?_)))
  refine drU [] [4] 10 Ty.mixed ?_
  refine jp_ 0 rfl mv_ ?_
  refine JA_early 3 (vG (Binding.enc b)) rfl (by kernel_rfl) (by kernel_rfl) (by kernel_rfl) rfl (by kernel_rfl) (fun _ _ _ h => h) rfl trivial (x_loadN 2 (Binding.enc b) rfl rfl Ty.ag33 Ty.sz33 rfl) ?_
  refine j1_ 1 ?_ (fun _ h => ⟨h.keep [false, false, false] rfl, fun _ => h⟩)
  refine jc1_ rfl (cl_ Ty.ca12) (fun w hS => f12_ok out6 _ _ w (RO.of_row hS 0 rfl)) ?_
  rintro _ _ ⟨s12, rfl, rfl⟩
  refine jt_ 2 (Value.iface 41 (pB s12 0)) rfl (fun _ _ => x_iface rfl (by kernel_rfl)) ?_
  refine j1_ 4 ?_ (fun _ h => ⟨h.keep [false, false, false, false] rfl, fun _ => h.keep [false, true, true, true] rfl⟩)
  refine JI_call [s12] [Ent.blk s12 52 [vL outA7 out6.length outC8, vI 0, vI 0, vI ((0 : Nat) : Int)]] [Ent.row (.slice outA7 out6.length outC8) 57 3 out6.length (out6.flatMap SRow.enc), Ent.blk b2 33 (Binding.enc b), Ent.blk b1 33 (Binding.enc b)] rfl rfl trivial (fun _ => x_call Ty.ca11 rfl) (fun _ h => h) (own_mem rfl) (fun w hS => f11_ok s12 out6 outA7 outC8 0 b w (RO.of_rowS hS (own_mem rfl) 0 rfl) (bN.on hS (own_mem rfl)) c45y0_ hy_ (by exact (R45.dist_use (by assumption)).1) c45y1_ (hS.give (own_in rfl))) ?_
  rintro _ _ ⟨out13, outA14, outC15, e16, rfl, rfl, hf17, hf18⟩
  have ha19 := R45.rec_len out13 (b := b) (by assumption) (by omega) (Nat.le_trans ((R45.few_use (by assumption) (by assumption)).2.2 0).1 (by decide))
  refine jp_ 5 rfl mv_ (jp_ 6 rfl (ex_ 0) (jp_ 7 rfl (ex_ 1) (jp_ 8 rfl av_ (jp_ 9 rfl av_ ?_))))
  refine JA_done (by kernel_rfl) (gl_ rfl (fun _ h => h.keep [false, false, false, false, false] rfl)) ?_
  refine n_ (q_ (g_ (s_ mv_ (r_ (ldN 4 (Binding.enc b) Ty.ag33 Ty.sz33) ?_))))
  refine c1 (cl_ Ty.ca13) (fun w hS => f13_ok out6 _ _ b w (RO.of_row hS 2 rfl) (bN.on0 hS) c45y0_ c45y1_) ?_
  rintro _ _ ⟨out20, outA21, outC22, rfl, rfl, hf23⟩
  have ha24 := R45.rec_len out20 (b := b) (by assumption) (by omega) (Nat.le_trans ((R45.few_use (by assumption) (by assumption)).2.2 0).1 (by decide))
  refine s_ mv_ (s_ (ex_ 0) (s_ (ex_ 1) (s_ av_ (s_ av_ (z_ (xk_ [4, 5, 6, 7, 8] ?_))))))
  refine n_ (q_ (g_ (s_ mv_ (s_ mv_ (c0 (cl_ Ty.ca14) (fun w hS => f14_ok _ _ _ _ _ _ w (RO.of_row hS 2 rfl) (RO.of_row hS 0 rfl) hy_ hy_) (s_ mv_ ?_))))))
  refine and_ 3 (true) (fun g25 => ?_) ?_
  ·have g25r := g25
   have g25r := of_decide_eq_true g25r
   refine sg_ g25 mv_ (sg_ g25 mv_ (jg_ g25 (vB true) (rfl) ?_))
   exact cr_
  refine s_ av_ (z_ (n_ (rt_ ?_)))
  exact p1 Tryz.results3 rfl ⟨(eB (by first | rfl | omega | (simp_all; done) | (simp_all; omega))), rfl⟩
end Go.Proofs.YtggobegaiijhhaaGreatDoor


