/- C40f, Sh40b, Ss40 in one text. -/
import Derived.Test.YtngjdmhpljmkpaaGreatDoorConditionWords19
import Derived.Test.YtngjdmhpljmkpaaGreatDoorConditionWords9
import Derived.Shelf.Small.Bits
import Derived.Shelf.Utf8.RuneCount
import Derived.Shelf.Strconv.Atoi
import Derived.Shelf.Strconv.Itoa0
import Derived.Shelf.Strconv.Itoa1
import Derived.Shelf.LaysM
import Derived.Shelf.Strconv.Itoa2
import Derived.Shelf.Strconv.Itoa3
import Derived.Shelf.Strconv.AtoiErrFast
import Derived.Shelf.Strconv.ParseIntEmpty
import Derived.Shelf.Strconv.AtoiFail
import Derived.Shelf.Strconv.Clone
import Derived.Shelf.Strconv.SyntaxError
import Derived.Shelf.LaysC
import Derived.Shelf.Strconv.ToError
import Derived.Shelf.Strconv.AtoiErr
import Derived.Shelf.Strconv.Lower
import Derived.Shelf.Strconv.ParseUint10
import Derived.Shelf.Strconv.ParseUint10Empty
import Derived.Shelf.Strconv.ParseUint10Any
import Derived.Shelf.Strconv.ParseInt10
import Derived.Shelf.Strconv.AtoiLong
import Derived.Shelf.Strconv.AtoiInnerAll
import Derived.Shelf.Strconv.RangeError
import Derived.Shelf.Strconv.ToErrorRange
import Derived.Shelf.Strconv.AtoiAll
import Derived.Shelf.Strconv.ErrVarAll
import Derived.Shelf.Strings.Search1
import Derived.Shelf.Strings.Search2
import Derived.Shelf.Strings.Search3
import Derived.Shelf.Strings.Count
import Derived.Shelf.Strings.Shaped
import Derived.Shelf.Sort.Plain
import Derived.Shelf.Strings.Split
import Derived.Shelf.Strings.SplitShaped
import Derived.Shelf.Unicode.Decode
import Derived.Shelf.Strings.RuneCount
import Derived.Shelf.Strings.Explode
import Derived.Shelf.Unicode.DecodeSlow
import Derived.Shelf.Unicode.DecodeAny
import Derived.Shelf.Slices.Turned
import Derived.Shelf.Slices.CompactS
import Derived.Shelf.Slices.Cells
import Derived.Shelf.Slices.In.SortNone
import Derived.Test.YtngjdmhpljmkpaaGreatDoorRows
import Derived.Test.YtngjdmhpljmkpaaGreatDoorConditionWords8
import Derived.Test.YtngjdmhpljmkpaaGreatDoorConditionWords4
set_option linter.unusedVariables false
set_option linter.unusedSimpArgs false
namespace Go.Proofs.YtngjdmhpljmkpaaGreatDoor
open Go.GV
set_option linter.unusedVariables false
set_option linter.unusedSimpArgs false
theorem c40f0_ {p : Prop} (h : p := by first | exact q0 | exact q0.1 | exact q0.2 | exact hix) : p := h
theorem c40f1_ {p : Prop} (h : p := by first | (rw [i1_1]; exact R40.bits_y (by assumption)) | (rw [i1_1]; exact R40.bits_n (by assumption))) : p := h
theorem c40f2_ {p : Prop} (h : p := by exact R40.all_add i3_1 (q5 k _ _ (by omega) (fun h => by first | exact absurd h (by omega) | exact R40.ends_at (by omega)) (i2_0 _ leftm))) : p := h
set_option maxRecDepth 20000 in
theorem f42_ok (k : Int) (e : StepEnd) (bt : Nat) (bp : Nat) (ts : List Test) (tsA : Option Addr) (tsC : Nat) (steps : List Bytes) (stepsA : Option Addr) (stepsC : Nat) (w : World) (tsR : RO [bt, bp] w tsA (ts.flatMap Test.enc)) (stepsR : RO [bt, bp] w stepsA (steps.map vS)) (q0 : steps.length ≤ 9223372036854775807) (q1 : ts.length ≤ 12) (q2 : ∀ i, (ts.getD i default).Kind = 0 → 0 ≤ (ts.getD i default).Op ∧ (ts.getD i default).Op ≤ 5) (hg : Give [bt, bp] w [Ent.blk bt 23 [vL tsA ts.length tsC], Ent.blk bp 22 [vL stepsA steps.length stepsC]]) : Calls Tryz.prog 42 #[vI k, vG [vB e.Ran, vB e.Failed, vI e.Code], pB bt 0, pB bp 0] w (Gives [bt, bp] w fun v L => v = vU32 (R40.bitsV ts steps k e) ∧ L = [Ent.blk bt 23 [vL tsA ts.length tsC], Ent.blk bp 22 [vL stepsA steps.length stepsC]]) := by
 refine calls_J [bt, bp] 43 Tryz.func42 rfl Tryz.ntmps42 [(0, _), (1, _), (2, _), (3, _)] rfl rfl hg ?_
 refine q_ (g_ (o_ (bxG fun b1 => ?_)))
 refine s_ av_ (z_ (n_ (q_ (g_ (s_ av_ (z_ (n_ (q_ (q_ (g_ (r_ (ld_ 1 Ty.sc23) (s_ (lnS Tryz.underlying23) (s_ mv_ (z_ (n_ (k_ ?_))))))))))))))))
 refine J_loop (X := Nat × UInt32) (fun (⟨i, s⟩ : Nat × UInt32) => (i ≤ ts.length) ∧ (s = R40.bitsN ts steps k e i)) (fun (⟨i, s⟩ : Nat × UInt32) => [(0, vI k), (3, pB bp 0), (5, pB b1 0), (6, vU32 0), (7, vU32 s), (10, vL tsA ts.length tsC), (11, vI ((ts.length : Nat) : Int)), (12, vI ((i : Nat) : Int))]) (fun (⟨i, s⟩ : Nat × UInt32) => [Ent.blk b1 38 [vB e.Ran, vB e.Failed, vI e.Code], Ent.blk bt 23 [vL tsA ts.length tsC], Ent.blk bp 22 [vL stepsA steps.length stepsC]]) (fun (⟨i, s⟩ : Nat × UInt32) => ts.length - i) ((0, (0 : UInt32)) : Nat × UInt32) ?_ ⟨rfl, rfl, rfl, rfl, rfl, rfl, rfl, rfl, trivial⟩ (fun _ h => h) ?_
 ·try dsimp only
  refine ⟨?_, ?_⟩
  ·first | rfl | omega | (simp_all; done) | (simp_all; omega)
  ·rfl
 rintro ⟨i, s⟩ hI1
 obtain ⟨i1_0, i1_1⟩ := hI1
 try dsimp only at i1_0
 try dsimp only at i1_1
 have hop := q2 i
 try dsimp only
 refine q_ (g_ (s_ (x_lss_i rfl rfl) (z_ (n_ (q_ ?_)))))
 refine ifd (fun h2w h2 => ?_) (fun h2w h2 => ?_)
 ·refine sk_ (n_ (q_ (k_ (q_ (g_ (s_ mv_ (r_ (ixF Test.enc_len (cells_ro tsR) Tryz.underlying23 Ty.sz40) (r_ (ldFN Test.enc_len (cells_ro tsR) Ty.ag40 Ty.sz40) (o_ (al_ Ty.ze40 fun b3 => ?_))))))))))
  refine s_ av_ (o_ (stG 0 Ty.sz40 ?_))
  refine z_ (n_ (q_ (g_ (s_ (fA 1 Ty.fi40_1) (r_ (ld_ 0 Ty.sc9) (js_ (vB (decide ((ts.getD i default).Step ≠ ([] : Bytes)))) (x_neq_s rfl rfl) (s_ mv_ ?_)))))))
  refine and_ 6 (decide (R40.idx steps ((ts.getD i default).Step) = k)) (fun g4 => ?_) ?_
  ·have g4r := g4
   have g4r := of_decide_eq_true g4r
   have g4rl := List.length_pos_iff.2 g4r
   refine rg_ g4 (ld_ 3 Ty.sc22) (sg_ g4 (fA 1 Ty.fi40_1) (rg_ g4 (ld_ 0 Ty.sc9) (c0g g4 (cl_ Ty.ca37) (fun w hS => f37_ok _ _ _ _ w (rno stepsR hS) hy_) ?_)))
   have ha5 := R40.idx_lt steps ((ts.getD i default).Step)
   refine sg_ g4 mv_ (sg_ g4 (x_eql_i rfl rfl) ?_)
   exact cr_
  refine s_ mv_ ?_
  refine and_ 3 (R40.holds (ts.getD i default) e) (fun g6 => ?_) ?_
  ·have g6r := g6
   have ⟨g6r, h7⟩ := band_true g6r
   have g6r := of_decide_eq_true g6r
   have g6rl := List.length_pos_iff.2 g6r
   have h7 := of_decide_eq_true h7
   refine rg_ g6 (ldN 0 (Test.enc (ts.getD i default)) Ty.ag40 Ty.sz40) (rg_ g6 (ldN 1 [vB e.Ran, vB e.Failed, vI e.Code] Ty.ag38 Ty.sz38) (c0g g6 (cl_ Ty.ca38) (fun w hS => f38_ok _ e w hy_) ?_))
   exact cr_
  refine z_ (xk_ [0, 3, 5, 6, 7, 10, 11, 12, 8, 32] ?_)
  refine n_ ?_
  refine if_ (fun h8 => ?_) (fun h8 => ?_)
  ·have h8w := h8
   have ⟨h8, h9⟩ := band_true h8
   have ⟨h8, h10⟩ := band_true h8
   have h8 := of_decide_eq_true h8
   have h8l := List.length_pos_iff.2 h8
   have h10 := of_decide_eq_true h10
   refine g_ (s_ mv_ (s_ mv_ (js_ (vU32 (UInt32.ofBitVec ((1 : UInt32).toBitVec <<< (i : Nat)))) (x_shl_u32 (m := i) rfl rfl (by omega)) (s_ (x_or_u32 rfl rfl) (s_ av_ (z_ (kx_ (n_ (g_ (s_ (x_add_n (a := i) (b := 1) rfl rfl (by omega)) (s_ mv_ (z_ ?_))))))))))))
   refine JX_round ((i + 1, s ||| (UInt32.ofBitVec ((1 : UInt32).toBitVec <<< (i : Nat)))) : Nat × UInt32) ?_ ?_ ⟨rfl, rfl, rfl, rfl, rfl, rfl, rfl, rfl, trivial⟩ (fun _ h => h.keep [false, true, true, true] rfl)
   ·try dsimp only
    refine ⟨?_, ?_⟩
    ·first | rfl | omega | (simp_all; done) | (simp_all; omega)
    ·exact c40f1_
   ·try dsimp only
    first | omega | (simp; omega) | (simp_all; omega)
  ·have h8w := h8
   simp only [Bool.and_eq_true, Bool.or_eq_true, Bool.and_eq_false_iff, Bool.or_eq_false_iff, Bool.not_eq_true', Bool.not_eq_false', decide_eq_true_eq, decide_eq_false_iff_not] at h8
   refine sk_ (kx_ (n_ (g_ (s_ (x_add_n (a := i) (b := 1) rfl rfl (by omega)) (s_ mv_ (z_ ?_))))))
   refine JX_round ((i + 1, s) : Nat × UInt32) ?_ ?_ ⟨rfl, rfl, rfl, rfl, rfl, rfl, rfl, rfl, trivial⟩ (fun _ h => h.keep [false, true, true, true] rfl)
   ·try dsimp only
    refine ⟨?_, ?_⟩
    ·first | rfl | omega | (simp_all; done) | (simp_all; omega)
    ·exact c40f1_
   ·try dsimp only
    first | omega | (simp; omega) | (simp_all; omega)
 ·refine J_exit (ne_ (re_ (kh_ (n_ (q_ ?_)))))
  refine q_ (g_ (r_ (ldN 0 [vB e.Ran, vB e.Failed, vI e.Code] Ty.ag38 Ty.sz38) (c0 (cl_ Ty.ca36) (fun w hS => f36_ok e w) (z_ (n_ ?_)))))
  refine if_ (fun h11 => ?_) (fun h11 => ?_)
  ·have h11w := h11
   refine g_ (s_ mv_ (js_ (vU32 (s ||| 2147483648)) (x_or_u32 rfl rfl) (s_ av_ (z_ (n_ (q_ (g_ (s_ mv_ (s_ av_ (z_ (n_ (rt_ ?_))))))))))))
   refine JX_rets [_] _ Tryz.results42 (fun w h => ⟨rfl, trivial⟩) rfl _ (fun _ h => h.keep [false, true, true] rfl) ⟨?_, ?_⟩
   ·have e_x0 : (s ||| 2147483648 : UInt32) = (R40.bitsV ts steps k e) := by first | exact R40.bits_t (by omega) i1_1 (by assumption) | exact R40.bits_f (by omega) i1_1 (by assumption)
    exact congrArg (fun (x0 : UInt32) => vU32 x0) e_x0
   ·rfl
  ·have h11w := h11
   refine sk_ (n_ (q_ (g_ (s_ mv_ (s_ av_ (z_ (n_ (rt_ ?_))))))))
   refine JX_rets [_] _ Tryz.results42 (fun w h => ⟨rfl, trivial⟩) rfl _ (fun _ h => h.keep [false, true, true] rfl) ⟨?_, ?_⟩
   ·have e_x0 : (s : UInt32) = (R40.bitsV ts steps k e) := by first | exact R40.bits_t (by omega) i1_1 (by assumption) | exact R40.bits_f (by omega) i1_1 (by assumption)
    exact congrArg (fun (x0 : UInt32) => vU32 x0) e_x0
   ·rfl
set_option maxRecDepth 20000 in
theorem f44_ok (t : Test) (i : Int) (bs : Nat) (s : UInt32) (w : World) (q0 : 0 ≤ i ∧ i < 32) (hg : Give [bs] w [Ent.blk bs 74 [vU32 s]]) : Calls Tryz.prog 44 #[vG (Test.enc t ++ [vI i]), pB bs 0] w (Gives [bs] w fun v L => v = vB (R40.leafB s t i) ∧ L = [Ent.blk bs 74 [vU32 s]]) := by
 refine calls_J [bs] 17 Tryz.func44 rfl Tryz.ntmps44 [(0, _), (1, _)] rfl rfl hg ?_
 refine q_ (g_ (o_ (bxG fun b1 => ?_)))
 refine s_ av_ (z_ (n_ (q_ (q_ (g_ (s_ (fA 0 Ty.fi64_0) (s_ (fA 0 Ty.fi40_0) (r_ (ld_ 0 Ty.sc3) (s_ (x_eql_i rfl rfl) (z_ (n_ ?_)))))))))))
 refine ifd (fun h2w h2 => ?_) (fun h2w h2 => ?_)
 ·refine q_ (g_ (r_ (ld_ 1 Ty.sc74) (js_ (vU32 (s &&& 2147483648)) (x_and_u32 rfl rfl) (js_ (vB (decide (s &&& 2147483648 ≠ (0 : UInt32)))) (x_neq_u32 rfl rfl) (s_ av_ (z_ (n_ (rt_ (nr_ ?_)))))))))
  refine JX_rets [_] _ Tryz.results44 (fun w h => ⟨rfl, trivial⟩) rfl _ (fun _ h => h.keep [false, true] rfl) ⟨?_, ?_⟩
  ·have e_x0 : (decide (s &&& 2147483648 ≠ (0 : UInt32)) : Bool) = (R40.leafB s t i) := by first | exact R40.leafB_any (by assumption) | exact R40.leafB_ix (by assumption)
   exact congrArg (fun (x0 : Bool) => vB x0) e_x0
  ·rfl
 ·refine sk_ (n_ (q_ (g_ (r_ (ld_ 1 Ty.sc74) (s_ (fA 4 Ty.fi64_1) (r_ (ld_ 0 Ty.sc3) (s_ (x_shr_u32 (m := i.toNat) rfl (ix_nat rfl (by omega)) (by omega)) (js_ (vU32 ((UInt32.ofBitVec (s.toBitVec >>> (i.toNat : Nat))) &&& 1)) (x_and_u32 rfl rfl) (js_ (vB (decide ((UInt32.ofBitVec (s.toBitVec >>> (i.toNat : Nat))) &&& 1 = (1 : UInt32)))) (x_eql_u32 rfl rfl) (s_ av_ (z_ (n_ (rt_ ?_)))))))))))))
  refine JX_rets [_] _ Tryz.results44 (fun w h => ⟨rfl, trivial⟩) rfl _ (fun _ h => h.keep [false, true] rfl) ⟨?_, ?_⟩
  ·have e_x0 : (decide ((UInt32.ofBitVec (s.toBitVec >>> (i.toNat : Nat))) &&& 1 = (1 : UInt32)) : Bool) = (R40.leafB s t i) := by first | exact R40.leafB_any (by assumption) | exact R40.leafB_ix (by assumption)
   exact congrArg (fun (x0 : Bool) => vB x0) e_x0
  ·rfl
set_option maxRecDepth 20000 in
theorem feval2_ok_aux (m : Nat) : ∀ (x : Node) (bs : Nat) (s : UInt32) (w : World) (q0 : R40.ixOk x) (hg : Give [bs] w [Ent.blk bs 74 [vU32 s]]), R40.size x < m → Calls Tryz.prog 33 #[nodeV x, Value.func (.func 44) #[] #[pB bs 0]] w (Gives [bs] w fun v L => v = vB (R40.eval (R40.leafB s) x) ∧ L = [Ent.blk bs 74 [vU32 s]]) := by
 induction m with
 | zero => intro x bs s w q0 hg hm; omega
 | succ m ih =>
  intro x bs s w q0 hg hm
  refine calls_J [bs] 48 Tryz.func33 rfl Tryz.ntmps33 [(0, _), (1, _)] rfl rfl hg ?_
  rcases x with ⟨t, i⟩ | x | ⟨b, y, z⟩
  ·simp only [R40.size] at hm
   simp only [R40.ixOk] at q0
   refine J_weaken (E' := [(0, Value.iface 64 (vG (Test.enc t ++ [vI i]))), (1, Value.func (.func 44) #[] #[pB bs 0])]) (L' := [Ent.blk bs 74 [vU32 s]]) ⟨rfl, rfl, trivial⟩ (fun _ h => h) ?_
   refine q_ (g_ (s_ av_ (z_ (n_ (q_ (q_ (g_ (s_ mv_ (z_ (n_ (k_ (q_ (g_ (s_ (x_assert_hit rfl Tryz.underlying64) (s_ (ex_ 1) (s_ (ex_ 0) (z_ (n_ (ift (q_ (g_ (o_ (al_ Ty.ze64 fun b1 => ?_)))))))))))))))))))))))
   refine o_ (stG 0 Ty.sz64 ?_)
   refine z_ (n_ (q_ (g_ (s_ mv_ (r_ (ldN 0 (Test.enc t ++ [vI i]) Ty.ag64 Ty.sz64) ?_)))))
   refine JO_call [bs] [Ent.blk bs 74 [vU32 s]] [Ent.blk b1 64 (Test.enc t ++ [vI i])] rfl trivial (fun _ => x_callv (first := []) (caps := [pB bs 0]) rfl Ty.ca44 rfl) (fun _ h => (h.front 1 _ rfl).keep [true, true] rfl) (own_mem rfl) (fun w hS => f44_ok t i bs s w hy_ (hS.give (own_in rfl))) ?_
   rintro _ _ ⟨rfl, rfl⟩
   refine s_ av_ (z_ (n_ (rt_ (kq_ (nr_ ?_)))))
   refine JX_rets [_] _ Tryz.results33 (fun w h => ⟨rfl, trivial⟩) rfl _ (fun _ h => h.keep [true, false] rfl) ⟨?_, ?_⟩
   ·have e_x0 : (R40.leafB s t i : Bool) = (R40.eval (R40.leafB s) (Node.leaf t i)) := by first | rfl | exact R40.eval_t (by assumption) | exact R40.eval_f (by assumption)
    exact congrArg (fun (x0 : Bool) => vB x0) e_x0
   ·rfl
  ·simp only [R40.size] at hm
   simp only [R40.ixOk] at q0
   refine J_weaken (E' := [(0, Value.iface 85 (vG [nodeV x])), (1, Value.func (.func 44) #[] #[pB bs 0])]) (L' := [Ent.blk bs 74 [vU32 s]]) ⟨rfl, rfl, trivial⟩ (fun _ h => h) ?_
   refine q_ (g_ (s_ av_ (z_ (n_ (q_ (q_ (g_ (s_ mv_ (z_ (n_ (k_ (q_ (g_ (s_ (x_assert_miss rfl Tryz.underlying64 Ty.ze64 (by decide)) (s_ (ex_ 1) (s_ (ex_ 0) (z_ (n_ (iff_ (q_ (g_ (s_ (x_assert_hit rfl Tryz.underlying85) ?_))))))))))))))))))))))
   refine s_ (ex_ 1) (s_ (ex_ 0) (z_ (n_ (ift (q_ (g_ (o_ (al_ Ty.ze85 fun b2 => ?_))))))))
   refine o_ (stG 0 Ty.sz85 ?_)
   refine z_ (n_ (q_ (g_ (s_ (fA 0 Ty.fi85_0) (r_ (ld_ 0 Ty.sc50) (s_ mv_ ?_))))))
   refine JO_call [bs] [Ent.blk bs 74 [vU32 s]] [Ent.blk b2 85 [nodeV x]] rfl trivial (fun _ => x_call Ty.ca33 rfl) (fun _ h => (h.front 1 _ rfl).keep [true, true] rfl) (own_mem rfl) (fun w hS => ih x bs s w c40f0_ (hS.give (own_in rfl)) (by omega)) ?_
   rintro _ _ ⟨rfl, rfl⟩
   refine s_ (x_not rfl) (s_ av_ (z_ (n_ (rt_ (kq_ (nr_ ?_))))))
   refine JX_rets [_] _ Tryz.results33 (fun w h => ⟨rfl, trivial⟩) rfl _ (fun _ h => h.keep [true, false] rfl) ⟨?_, ?_⟩
   ·have e_x0 : (!(R40.eval (R40.leafB s) x) : Bool) = (R40.eval (R40.leafB s) (Node.neg x)) := by first | rfl | exact R40.eval_t (by assumption) | exact R40.eval_f (by assumption)
    exact congrArg (fun (x0 : Bool) => vB x0) e_x0
   ·rfl
  ·simp only [R40.size] at hm
   simp only [R40.ixOk] at q0
   refine J_weaken (E' := [(0, Value.iface 87 (vG [vB b, nodeV y, nodeV z])), (1, Value.func (.func 44) #[] #[pB bs 0])]) (L' := [Ent.blk bs 74 [vU32 s]]) ⟨rfl, rfl, trivial⟩ (fun _ h => h) ?_
   refine q_ (g_ (s_ av_ (z_ (n_ (q_ (q_ (g_ (s_ mv_ (z_ (n_ (k_ (q_ (g_ (s_ (x_assert_miss rfl Tryz.underlying64 Ty.ze64 (by decide)) (s_ (ex_ 1) (s_ (ex_ 0) (z_ (n_ (iff_ (q_ (g_ (s_ (x_assert_miss rfl Tryz.underlying85 Ty.ze85 (by decide)) ?_))))))))))))))))))))))
   refine s_ (ex_ 1) (s_ (ex_ 0) (z_ (n_ (iff_ (q_ (g_ (s_ (x_assert_hit rfl Tryz.underlying87) (s_ (ex_ 1) (s_ (ex_ 0) (z_ (n_ (ift (q_ (g_ (o_ (al_ Ty.ze87 fun b3 => ?_))))))))))))))))
   refine o_ (stG 0 Ty.sz87 ?_)
   refine z_ (n_ (q_ (q_ (g_ (s_ (fA 0 Ty.fi87_0) (r_ (ld_ 0 Ty.sc4) (z_ (n_ ?_))))))))
   refine if_ (fun h4 => ?_) (fun h4 => ?_)
   ·have h4w := h4
    refine q_ (g_ (s_ (fA 1 Ty.fi87_1) (r_ (ld_ 0 Ty.sc50) (s_ mv_ ?_))))
    refine JO_call [bs] [Ent.blk bs 74 [vU32 s]] [Ent.blk b3 87 [vB b, nodeV y, nodeV z]] rfl trivial (fun _ => x_call Ty.ca33 rfl) (fun _ h => (h.front 1 _ rfl).keep [true, true] rfl) (own_mem rfl) (fun w hS => ih y bs s w c40f0_ (hS.give (own_in rfl)) (by omega)) ?_
    rintro _ _ ⟨rfl, rfl⟩
    refine s_ mv_ ?_
    refine and_ 4 (R40.eval (R40.leafB s) z) (fun g5 => ?_) ?_
    ·have g5r := g5
     refine sg_ g5 (fA 2 Ty.fi87_2) (rg_ g5 (ld_ 1 Ty.sc50) (sg_ g5 mv_ ?_))
     refine JO_call [bs] [Ent.blk bs 74 [vU32 s]] [Ent.blk b3 87 [vB b, nodeV y, nodeV z]] rfl ⟨_, rfl, g5⟩ (fun _ => x_call Ty.ca33 rfl) (fun _ h => h) (own_mem rfl) (fun w hS => ih z bs s w c40f0_ (hS.give (own_in rfl)) (by omega)) ?_
     rintro _ _ ⟨rfl, rfl⟩
     exact cr_
    refine s_ av_ (z_ (xk_ [1, 4, 7] ?_))
    refine n_ (rt_ (nr_ (kq_ (nr_ ?_))))
    refine JX_rets [_] _ Tryz.results33 (fun w h => ⟨rfl, trivial⟩) rfl _ (fun _ h => h.keep [true, false] rfl) ⟨?_, ?_⟩
    ·have e_x0 : ((R40.eval (R40.leafB s) y) && (R40.eval (R40.leafB s) z) : Bool) = (R40.eval (R40.leafB s) (Node.pair b y z)) := by first | rfl | exact R40.eval_t (by assumption) | exact R40.eval_f (by assumption)
     exact congrArg (fun (x0 : Bool) => vB x0) e_x0
    ·rfl
   ·have h4w := h4
    refine sk_ (n_ (q_ (g_ (s_ (fA 1 Ty.fi87_1) (r_ (ld_ 0 Ty.sc50) (s_ mv_ ?_))))))
    refine JO_call [bs] [Ent.blk bs 74 [vU32 s]] [Ent.blk b3 87 [vB b, nodeV y, nodeV z]] rfl trivial (fun _ => x_call Ty.ca33 rfl) (fun _ h => (h.front 1 _ rfl).keep [true, true] rfl) (own_mem rfl) (fun w hS => ih y bs s w c40f0_ (hS.give (own_in rfl)) (by omega)) ?_
    rintro _ _ ⟨rfl, rfl⟩
    refine s_ mv_ ?_
    refine or_ 4 (R40.eval (R40.leafB s) z) (fun g6 => ?_) ?_
    ·have g6r := g6
     refine sg_ g6 (fA 2 Ty.fi87_2) (rg_ g6 (ld_ 1 Ty.sc50) (sg_ g6 mv_ ?_))
     refine JO_call [bs] [Ent.blk bs 74 [vU32 s]] [Ent.blk b3 87 [vB b, nodeV y, nodeV z]] rfl ⟨_, rfl, g6⟩ (fun _ => x_call Ty.ca33 rfl) (fun _ h => h) (own_mem rfl) (fun w hS => ih z bs s w c40f0_ (hS.give (own_in rfl)) (by omega)) ?_
     rintro _ _ ⟨rfl, rfl⟩
     exact cr_
    refine s_ av_ (z_ (xk_ [4] ?_))
    refine n_ (rt_ (kq_ (nr_ ?_)))
    refine JX_rets [_] _ Tryz.results33 (fun w h => ⟨rfl, trivial⟩) rfl _ (fun _ h => h.keep [true, false] rfl) ⟨?_, ?_⟩
    ·have e_x0 : ((R40.eval (R40.leafB s) y) || (R40.eval (R40.leafB s) z) : Bool) = (R40.eval (R40.leafB s) (Node.pair b y z)) := by first | rfl | exact R40.eval_t (by assumption) | exact R40.eval_f (by assumption)
     exact congrArg (fun (x0 : Bool) => vB x0) e_x0
    ·rfl
theorem feval2_ok (x : Node) (bs : Nat) (s : UInt32) (w : World) (q0 : R40.ixOk x) (hg : Give [bs] w [Ent.blk bs 74 [vU32 s]]) : Calls Tryz.prog 33 #[nodeV x, Value.func (.func 44) #[] #[pB bs 0]] w (Gives [bs] w fun v L => v = vB (R40.eval (R40.leafB s) x) ∧ L = [Ent.blk bs 74 [vU32 s]]) :=
 feval2_ok_aux (R40.size x + 1) x bs s w q0 hg (Nat.lt_succ_self _)
set_option maxRecDepth 20000 in
theorem f43_ok (ts : List Test) (tsA : Option Addr) (tsC : Nat) (w : World) (tsR : RO [] w tsA (ts.flatMap Test.enc)) (q0 : ts.length ≤ 12) (q1 : ∀ i, 0 ≤ (ts.getD i default).N ∧ (ts.getD i default).N ≤ 4095) : Calls Tryz.prog 43 #[vL tsA ts.length tsC] w (Gives [] w fun v L => ∃ out : List StepEnd, ∃ A2 : Option Addr, ∃ c2 : Nat, v = vL A2 out.length c2 ∧ L = [Ent.row (.slice A2 out.length c2) 38 3 out.length (out.flatMap StepEnd.enc)] ∧ (4 ≤ out.length) ∧ (out.length ≤ 100)) := by
 refine calls_J [] 37 Tryz.func43 rfl Tryz.ntmps43 [(0, _)] rfl rfl (Give.nil w) ?_
 refine q_ (g_ (s_ av_ (z_ (n_ (q_ (g_ (js_ (vG [vB false, vB false, vI 0]) (x_build (by kernel_rfl)) (js_ (vG [vB true, vB true, vI 0]) (x_build (by kernel_rfl)) (js_ (vG [vB true, vB false, vI 0]) (x_build (by kernel_rfl)) (js_ (vG [vB true, vB false, vI 4095]) (x_build (by kernel_rfl)) (o_ (O_buildSlice (cs := [vB false, vB false, vI 0, vB true, vB true, vI 0, vB true, vB false, vI 0, vB true, vB false, vI 4095]) Tryz.underlying33 Ty.sz38 Ty.ze38 (by decide) (by decide) (by kernel_rfl) fun b1 => ?_))))))))))))
 refine s_ av_ (z_ (n_ (q_ (q_ (g_ (s_ mv_ (s_ (lnS Tryz.underlying23) (s_ mv_ (z_ (n_ (k_ ?_)))))))))))
 refine J_loop (X := Nat × (List StepEnd) × (Option Addr) × Nat) (fun (⟨k, out, outA, outC⟩ : Nat × (List StepEnd) × (Option Addr) × Nat) => (k ≤ ts.length) ∧ (4 ≤ out.length) ∧ (out.length ≤ 4 + 3 * k)) (fun (⟨k, out, outA, outC⟩ : Nat × (List StepEnd) × (Option Addr) × Nat) => [(2, vL none 0 0), (3, vL outA out.length outC), (12, vL tsA ts.length tsC), (13, vI ((ts.length : Nat) : Int)), (14, vI ((k : Nat) : Int))]) (fun (⟨k, out, outA, outC⟩ : Nat × (List StepEnd) × (Option Addr) × Nat) => [Ent.row (.slice outA out.length outC) 38 3 out.length (out.flatMap StepEnd.enc)]) (fun (⟨k, out, outA, outC⟩ : Nat × (List StepEnd) × (Option Addr) × Nat) => ts.length - k) ((0, [(StepEnd.mk false false 0), (StepEnd.mk true true 0), (StepEnd.mk true false 0), (StepEnd.mk true false 4095)], (some ⟨b1, 0, none⟩), 4) : Nat × (List StepEnd) × (Option Addr) × Nat) ?_ ⟨rfl, rfl, rfl, rfl, rfl, trivial⟩ (fun _ h => (St.torow (cs := [vB false, vB false, vI 0, vB true, vB true, vI 0, vB true, vB false, vI 0, vB true, vB false, vI 4095]) h 3 4 rfl (by decide)).keep [true] rfl) ?_
 ·try dsimp only
  refine ⟨?_, ?_, ?_⟩
  ·omega
  ·decide
  ·decide
 rintro ⟨k, out, outA, outC⟩ hI1
 obtain ⟨i1_0, i1_1, i1_2⟩ := hI1
 try dsimp only at i1_0
 try dsimp only at i1_1
 try dsimp only at i1_2
 have hnn := q1 k
 try dsimp only
 refine q_ (g_ (s_ (x_lss_i rfl rfl) (z_ (n_ (q_ ?_)))))
 refine ifd (fun h2w h2 => ?_) (fun h2w h2 => ?_)
 ·refine sk_ (n_ (q_ (k_ (q_ (g_ (r_ (ixF Test.enc_len (cells_ro tsR) Tryz.underlying23 Ty.sz40) (r_ (ldFN Test.enc_len (cells_ro tsR) Ty.ag40 Ty.sz40) (o_ (al_ Ty.ze40 fun b3 => ?_)))))))))
  refine o_ (stG 0 Ty.sz40 ?_)
  refine z_ (n_ (q_ (g_ (s_ (fA 3 Ty.fi40_3) (r_ (ld_ 0 Ty.sc3) (s_ (x_sub_i (a := (ts.getD k default).N) (b := 1) rfl rfl (by omega) (by omega)) (s_ (x_max_i (a := 0) (b := ((ts.getD k default).N) - 1) rfl rfl) (s_ av_ (z_ (n_ (k_ ?_)))))))))))
  refine J_loop (X := Int × (List StepEnd) × (Option Addr) × Nat) (fun (⟨n, out2, out2A, out2C⟩ : Int × (List StepEnd) × (Option Addr) × Nat) => ((ts.getD k default).N - 1 ≤ n) ∧ (0 ≤ n) ∧ (n ≤ (ts.getD k default).N + 2) ∧ (4 ≤ out2.length) ∧ ((out2.length : Int) ≤ 4 + 3 * k + (n - ((ts.getD k default).N - 1)))) (fun (⟨n, out2, out2A, out2C⟩ : Int × (List StepEnd) × (Option Addr) × Nat) => [(2, vL none 0 0), (3, vL out2A out2.length out2C), (12, vL tsA ts.length tsC), (13, vI ((ts.length : Nat) : Int)), (14, vI ((k : Nat) : Int)), (5, pB b3 0), (6, vI n)]) (fun (⟨n, out2, out2A, out2C⟩ : Int × (List StepEnd) × (Option Addr) × Nat) => [Ent.blk b3 40 (Test.enc (ts.getD k default)), Ent.row (.slice out2A out2.length out2C) 38 3 out2.length (out2.flatMap StepEnd.enc)]) (fun (⟨n, out2, out2A, out2C⟩ : Int × (List StepEnd) × (Option Addr) × Nat) => ((ts.getD k default).N + 2 - n).toNat) ((max 0 (((ts.getD k default).N) - 1), out, outA, outC) : Int × (List StepEnd) × (Option Addr) × Nat) ?_ ⟨rfl, rfl, rfl, rfl, rfl, rfl, rfl, trivial⟩ (fun _ h => h) ?_
  ·try dsimp only
   refine ⟨?_, ?_, ?_, ?_, ?_⟩
   ·omega
   ·omega
   ·omega
   ·omega
   ·omega
  rintro ⟨n, out2, out2A, out2C⟩ hI2
  obtain ⟨i2_0, i2_1, i2_2, i2_3, i2_4⟩ := hI2
  try dsimp only at i2_0
  try dsimp only at i2_1
  try dsimp only at i2_2
  try dsimp only at i2_3
  try dsimp only at i2_4
  try dsimp only
  refine q_ (q_ (g_ (s_ mv_ (s_ (fA 3 Ty.fi40_3) (r_ (ld_ 0 Ty.sc3) (s_ (x_add_i (a := (ts.getD k default).N) (b := 1) rfl rfl (by omega) (by omega)) (s_ (x_min_i (a := 4095) (b := ((ts.getD k default).N) + 1) rfl rfl) (s_ (x_leq_i rfl rfl) (z_ (n_ ?_))))))))))
  refine ifd (fun h4w h4 => ?_) (fun h4w h4 => ?_)
  ·refine sk_ (n_ (q_ (k_ (g_ (s_ mv_ (s_ mv_ (js_ (vG [vB true, vB false, vI n]) (x_build (by kernel_rfl)) (o_ (O_buildSlice (cs := [vB true, vB false, vI n]) Tryz.underlying33 Ty.sz38 Ty.ze38 (by decide) (by decide) (by kernel_rfl) fun b5 => ?_)))))))))
   refine o_ (O_append_f 2 StepEnd.enc 3 out2 [(StepEnd.mk true false n)] Tryz.underlying33 Ty.sz38 Ty.by38 Ty.ze38 rfl (by decide) rfl rfl rfl rfl StepEnd.enc_len StepEnd.enc_one (cells_blk 0 (off := 0) (m := 3) rfl rfl) lt_ lt_ fun A6 c7 => ?_)
   refine s_ av_ (z_ (kx_ (n_ (g_ (s_ mv_ (s_ (x_add_i (a := n) (b := 1) rfl rfl (by omega) (by omega)) (s_ av_ (z_ ?_))))))))
   refine JX_round ((n + 1, out2 ++ [(StepEnd.mk true false n)], A6, c7) : Int × (List StepEnd) × (Option Addr) × Nat) ?_ ?_ ⟨rfl, rfl, rfl, rfl, rfl, rfl, rfl, trivial⟩ (fun _ h => h.keep [false, true, true] rfl)
   ·try dsimp only
    refine ⟨?_, ?_, ?_, ?_, ?_⟩
    ·omega
    ·omega
    ·omega
    ·simp only [List.length_append, List.length_cons, List.length_nil]; omega
    ·simp only [List.length_append, List.length_cons, List.length_nil]; omega
   ·try dsimp only
    first | omega | (simp; omega) | (simp_all; omega)
  ·refine J_exit (ne_ (re_ (kh_ (kx_ (n_ ?_)))))
   refine g_ (s_ (x_add_n (a := k) (b := 1) rfl rfl (by omega)) (s_ mv_ (z_ ?_)))
   refine JX_round ((k + 1, out2, out2A, out2C) : Nat × (List StepEnd) × (Option Addr) × Nat) ?_ ?_ ⟨rfl, rfl, rfl, rfl, rfl, trivial⟩ (fun _ h => h.keep [false, true] rfl)
   ·try dsimp only
    refine ⟨?_, ?_, ?_⟩
    ·first | rfl | omega | (simp_all; done) | (simp_all; omega)
    ·omega
    ·omega
   ·try dsimp only
    first | omega | (simp; omega) | (simp_all; omega)
 ·refine J_exit (ne_ (re_ (kh_ (n_ (q_ ?_)))))
  refine g_ (s_ mv_ (s_ av_ (z_ (n_ (rt_ ?_)))))
  refine JX_rets [_] _ Tryz.results43 (fun w h => ⟨rfl, trivial⟩) rfl _ (fun _ h => h) ⟨out, outA, outC, ?_, ?_, ?_, ?_⟩
  ·rfl
  ·rfl
  ·exact i1_1
  ·omega
set_option maxRecDepth 20000 in
theorem f20_ok (Q : UInt32 → Prop) (bv : Bool) (ts : List Test) (tsA : Option Addr) (tsC : Nat) (steps : List Bytes) (stepsA : Option Addr) (stepsC : Nat) (ends : List StepEnd) (endsA : Option Addr) (endsC : Nat) (w : World) (tsR : RO [] w tsA (ts.flatMap Test.enc)) (stepsR : RO [] w stepsA (steps.map vS)) (endsR : RO [] w endsA (ends.flatMap StepEnd.enc)) (q0 : steps.length ≤ 9223372036854775807) (q1 : ts.length ≤ 12) (q2 : ends.length ≤ endsC ∧ ends.length ≤ 9223372036854775807) (q3 : (R40.onV ts steps).isSome = true) (q4 : Q 0) (q5 : ∀ (k : Nat) e s, k < steps.length → (k < ends.length → e = ends.getD k default) → Q s → Q (s ||| R40.bitsV ts steps k e)) (q6 : ∀ s, Q s → R40.eval (R40.leafB s) ((R40.onV ts steps).getD default) = bv) : Calls Tryz.prog 20 #[vL tsA ts.length tsC, vL stepsA steps.length stepsC, vL endsA ends.length endsC] w (Gives [] w fun v L => v = Value.tuple #[vB bv, vB true] ∧ L = []) := by
 refine calls_J [] 91 Tryz.func20 rfl Tryz.ntmps20 [(0, _), (1, _), (2, _)] rfl rfl (Give.nil w) ?_
 refine q_ (g_ (o_ (bx1 fun b1 => ?_)))
 refine o_ (bx1 fun b2 => ?_)
 refine s_ av_ (s_ av_ (z_ (n_ (q_ (g_ (r_ (ld_ 1 Ty.sc23) (r_ (ld_ 0 Ty.sc22) (c0 (cl_ Ty.ca32) (fun w hS => f32_ok ts tsA tsC _ _ _ w (rno tsR hS) (rno stepsR hS) hy_ hy_) (s_ mv_ (s_ (ex_ 0) (s_ (ex_ 1) (s_ av_ ?_))))))))))))
 refine s_ av_ (z_ (n_ (q_ (q_ (g_ (s_ mv_ (s_ (x_not rfl) (s_ mv_ ?_))))))))
 refine or_ 3 (decide ((12 : Int) < ((ts.length : Nat) : Int))) (fun g3 => ?_) ?_
 ·have g3r := g3
  have g3r : ((R40.onV ts steps).isSome) = true := bnot_false g3r
  refine rg_ g3 (ld_ 1 Ty.sc23) (sg_ g3 (lnS Tryz.underlying23) (sg_ g3 (x_gtr_i rfl rfl) ?_))
  exact cr_
 refine z_ (n_ ?_)
 refine if_ (fun h4 => ?_) (fun h4 => ?_)
 ·have h4w := h4
  simp only [Bool.and_eq_true, Bool.or_eq_true, Bool.and_eq_false_iff, Bool.or_eq_false_iff, Bool.not_eq_true', Bool.not_eq_false', decide_eq_true_eq, decide_eq_false_iff_not] at h4
  exfalso; first | (simp_all; done) | (simp_all; omega)
 ·have h4w := h4
  have ⟨h4, h5⟩ := bor_false h4
  have h4 : ((R40.onV ts steps).isSome) = true := bnot_false h4
  have h5 := of_decide_eq_false h5
  have hgx := R40.on_good (by assumption : (R40.onV ts steps).isSome = true)
  refine J_weaken (E' := [(0, vL tsA ts.length tsC), (1, vL stepsA steps.length stepsC), (2, vL endsA ends.length endsC), (3, pB b1 0), (4, pB b2 0), (6, vB false), (7, vB false), (21, vL tsA ts.length tsC), (22, vL stepsA steps.length stepsC), (23, Value.tuple #[nodeO (R40.onV ts steps), vB ((R40.onV ts steps).isSome)]), (20, Value.tuple #[nodeO (R40.onV ts steps), vB ((R40.onV ts steps).isSome)]), (24, nodeV ((R40.onV ts steps).getD default)), (25, vB ((R40.onV ts steps).isSome)), (8, nodeV ((R40.onV ts steps).getD default)), (9, vB ((R40.onV ts steps).isSome)), (26, vB ((R40.onV ts steps).isSome)), (27, vB (!((R40.onV ts steps).isSome))), (28, vB (!((R40.onV ts steps).isSome))), (32, vB ((!((R40.onV ts steps).isSome)) || (decide ((12 : Int) < ((ts.length : Nat) : Int)))))]) (L' := [Ent.blk b2 22 [vL stepsA steps.length stepsC], Ent.blk b1 23 [vL tsA ts.length tsC]]) ⟨rfl, rfl, rfl, rfl, rfl, rfl, rfl, rfl, rfl, rfl, rfl, (congrArg some (nodeO_some (by assumption))), rfl, (congrArg some (nodeO_some (by assumption))), rfl, rfl, rfl, rfl, rfl, trivial⟩ (fun _ h => h) ?_
  refine sk_ (n_ (q_ (g_ (js_ (Value.func (.func 42) #[] #[pB b1 0, pB b2 0]) (x_makeFunc rfl rfl) (s_ av_ (z_ (xk_ [2, 3, 4, 6, 7, 8, 10] ?_)))))))
  refine n_ (q_ (g_ (o_ (O_makeMap vU32 fun b6 => ?_))))
  refine o_ (O_insert 0 (f := vU32) (k := 0) ((addK ([] : List UInt32) 0).map kT) [Ent.mp vU32 b6 ((addK ([] : List UInt32) 0).map kT), Ent.blk b2 22 [vL stepsA steps.length stepsC], Ent.blk b1 23 [vL tsA ts.length tsC]] rfl rfl rfl rfl Tryz.underlying76 (mapK_u32 Tryz.underlying74) (upd_kT ([] : List UInt32) 0) rfl ?_)
  refine s_ mv_ (s_ av_ (z_ (n_ (q_ (q_ (g_ (r_ (ld_ 1 Ty.sc22) (s_ (lnS Tryz.underlying22) (s_ mv_ (z_ (n_ (k_ ?_))))))))))))
  refine J_loop (X := Nat × (List UInt32) × Nat) (fun (⟨k, X, XB⟩ : Nat × (List UInt32) × Nat) => (k ≤ steps.length) ∧ (X ≠ []) ∧ (∀ s ∈ X, Q s)) (fun (⟨k, X, XB⟩ : Nat × (List UInt32) × Nat) => [(2, vL endsA ends.length endsC), (3, pB b1 0), (6, vB false), (7, vB false), (8, nodeV ((R40.onV ts steps).getD default)), (10, Value.func (.func 42) #[] #[pB b1 0, pB b2 0]), (11, Value.map (some XB)), (37, vI ((steps.length : Nat) : Int)), (38, vI ((k : Nat) : Int))]) (fun (⟨k, X, XB⟩ : Nat × (List UInt32) × Nat) => [Ent.mp vU32 XB (X.map kT), Ent.blk b2 22 [vL stepsA steps.length stepsC], Ent.blk b1 23 [vL tsA ts.length tsC]]) (fun (⟨k, X, XB⟩ : Nat × (List UInt32) × Nat) => steps.length - k) ((0, (addK ([] : List UInt32) 0), b6) : Nat × (List UInt32) × Nat) ?_ ⟨rfl, rfl, rfl, rfl, rfl, rfl, rfl, rfl, rfl, trivial⟩ (fun _ h => h) ?_
  ·try dsimp only
   refine ⟨?_, ?_, ?_⟩
   ·first | rfl | omega | (simp_all; done) | (simp_all; omega)
   ·decide
   ·exact R40.all_add (fun _ h => (by cases h)) q4
  rintro ⟨k, X, XB⟩ hI1
  obtain ⟨i1_0, i1_1, i1_2⟩ := hI1
  try dsimp only at i1_0
  try dsimp only at i1_1
  try dsimp only at i1_2
  try dsimp only
  refine q_ (g_ (s_ (x_lss_i rfl rfl) (z_ (n_ (q_ ?_)))))
  refine ifd (fun h7w h7 => ?_) (fun h7w h7 => ?_)
  ·refine sk_ (n_ (q_ (k_ (q_ (g_ (s_ mv_ (s_ av_ (z_ (n_ (q_ (g_ (o_ (O_makeMap vU32 fun b8 => ?_)))))))))))))
   refine s_ av_ (z_ (n_ (q_ (g_ (r_ (ld_ 3 Ty.sc23) ?_)))))
   refine c1 (cl_ Ty.ca43) (fun w hS => f43_ok ts tsA tsC w (rno tsR hS) hy_ (by exact fun i => (R40.on_forms q3 i).2)) ?_
   rintro _ _ ⟨out9, e10, e11, rfl, rfl, hf12, hf13⟩
   refine s_ av_ (z_ (n_ (q_ (q_ (g_ (s_ mv_ (s_ mv_ (s_ (lnS Tryz.underlying33) (s_ (x_lss_i rfl rfl) (z_ (n_ ?_)))))))))))
   refine ifd (fun h14w h14 => ?_) (fun h14w h14 => ?_)
   ·refine g_ (s_ mv_ (s_ mv_ (s_ mv_ (s_ (x_add_n (a := k) (b := 1) rfl rfl (by omega)) (s_ (x_subrow (lo := k) (hi := k + 1) rfl Tryz.underlying33 Ty.sz38 (.inl rfl) (.inl rfl) lt_ lt_) ?_)))))
    have hro15 := RO.subF endsR StepEnd.enc_len endsC k ((k + 1) - k) lt_
    refine JO_weaken (E' := [(2, vL endsA ends.length endsC), (3, pB b1 0), (6, vB false), (7, vB false), (8, nodeV ((R40.onV ts steps).getD default)), (10, Value.func (.func 42) #[] #[pB b1 0, pB b2 0]), (11, Value.map (some XB)), (37, vI ((steps.length : Nat) : Int)), (38, vI ((k : Nat) : Int)), (39, vB (decide (((k : Nat) : Int) < ((steps.length : Nat) : Int)))), (40, vI ((k : Nat) : Int)), (12, vI ((k : Nat) : Int)), (41, Value.map (some b8)), (13, Value.map (some b8)), (42, vL tsA ts.length tsC), (43, vL e10 out9.length e11), (14, vL e10 out9.length e11), (44, vI ((k : Nat) : Int)), (45, vL endsA ends.length endsC), (46, vI ((ends.length : Nat) : Int)), (47, vB (decide (((k : Nat) : Int) < ((ends.length : Nat) : Int)))), (48, vL endsA ends.length endsC), (49, vI ((k : Nat) : Int)), (50, vI ((k : Nat) : Int)), (51, vI ((k + 1 : Nat) : Int)), (52, vL (subA endsA endsC k 3) (((ends.drop k).take ((k + 1) - k)).length) (endsC - k))]) (L' := [Ent.row (.slice e10 out9.length e11) 38 3 out9.length (out9.flatMap StepEnd.enc), Ent.mp vU32 b8 ([] : List (UInt32 × Value)), Ent.mp vU32 XB (X.map kT), Ent.blk b2 22 [vL stepsA steps.length stepsC], Ent.blk b1 23 [vL tsA ts.length tsC]]) ⟨rfl, rfl, rfl, rfl, rfl, rfl, rfl, rfl, rfl, rfl, rfl, rfl, rfl, rfl, rfl, rfl, rfl, rfl, rfl, rfl, rfl, rfl, rfl, rfl, rfl, (congrArg (fun n : Nat => some (Value.slice (subA endsA endsC k 3) n (endsC - k))) lt_), trivial⟩ (fun _ h => h) ?_
    refine s_ av_ (z_ (xk_ [2, 3, 6, 7, 8, 10, 11, 37, 38, 12, 13, 14] ?_))
    refine n_ (q_ (q_ (g_ (s_ mv_ (o_ (O_range 2 (f := vU32) rfl rfl Tryz.underlying76 fun es16 ck17 it18 hes19 hborn20 => ?_))))))
    refine z_ (n_ (k_ ?_))
    refine J_loop (X := (List UInt32) × (Option (UInt32 × Value)) × (List UInt32)) (fun (⟨left, leftC, nx⟩ : (List UInt32) × (Option (UInt32 × Value)) × (List UInt32)) => (∀ s ∈ left, Q s) ∧ (∀ s ∈ nx, Q s) ∧ (nx ≠ [] ∨ left ≠ [])) (fun (⟨left, leftC, nx⟩ : (List UInt32) × (Option (UInt32 × Value)) × (List UInt32)) => [(2, vL endsA ends.length endsC), (3, pB b1 0), (6, vB false), (7, vB false), (8, nodeV ((R40.onV ts steps).getD default)), (10, Value.func (.func 42) #[] #[pB b1 0, pB b2 0]), (11, Value.map (some XB)), (37, vI ((steps.length : Nat) : Int)), (38, vI ((k : Nat) : Int)), (12, vI ((k : Nat) : Int)), (13, Value.map (some b8)), (14, vL (subA endsA endsC k 3) (((ends.drop k).take ((k + 1) - k)).length) (endsC - k)), (54, pB it18 0)]) (fun (⟨left, leftC, nx⟩ : (List UInt32) × (Option (UInt32 × Value)) × (List UInt32)) => [Ent.rng vU32 it18 XB es16 ck17 (left.map kT) leftC, Ent.mp vU32 b8 (nx.map kT), Ent.mx XB es16 ck17, Ent.blk b2 22 [vL stepsA steps.length stepsC], Ent.blk b1 23 [vL tsA ts.length tsC]]) (fun (⟨left, leftC, nx⟩ : (List UInt32) × (Option (UInt32 × Value)) × (List UInt32)) => left.length) ((X, (none : Option (UInt32 × Value)), ([] : List UInt32)) : (List UInt32) × (Option (UInt32 × Value)) × (List UInt32)) ?_ ⟨rfl, rfl, rfl, rfl, rfl, rfl, rfl, rfl, rfl, rfl, rfl, rfl, rfl, trivial⟩ (fun _ h => h.keep [true, false, true, true, true, true] rfl) ?_
    ·try dsimp only
     refine ⟨?_, ?_, ?_⟩
     ·exact i1_2
     ·exact fun _ h => (by cases h)
     ·exact .inr i1_1
    rintro ⟨left, leftC, nx⟩ hI2
    obtain ⟨i2_0, i2_1, i2_2⟩ := hI2
    try dsimp only at i2_0
    try dsimp only at i2_1
    try dsimp only at i2_2
    try dsimp only
    refine q_ (g_ ?_)
    refine JO_op rfl trivial (O_next 0 2 (f := vU32) kT rfl rfl rfl hborn20 (fun left0 => ?_) (fun lefta leftn lefth => ?_))
    ·refine s_ (ex_ 0) (z_ (n_ (q_ (iff_ (J_exit (ne_ (re_ (kh_ (n_ (g_ (s_ mv_ (s_ av_ (z_ (kx_ (n_ (g_ (s_ (x_add_n (a := k) (b := 1) rfl rfl (by omega)) (s_ mv_ (z_ ?_)))))))))))))))))))
     refine JX_round ((k + 1, nx, b8) : Nat × (List UInt32) × Nat) ?_ ?_ ⟨rfl, rfl, rfl, rfl, rfl, rfl, rfl, rfl, rfl, trivial⟩ (fun _ h => h.keep [false, true, false, true, true] rfl)
     ·try dsimp only
      refine ⟨?_, ?_, ?_⟩
      ·first | rfl | omega | (simp_all; done) | (simp_all; omega)
      ·exact i2_2.resolve_right (fun h => h left0)
      ·exact i2_1
     ·try dsimp only
      first | omega | (simp; omega) | (simp_all; omega)
    ·have leftl := (List.getElem?_eq_some_iff.1 lefth).1
     have lefte := List.length_eraseIdx_of_lt leftl
     have leftm := List.mem_of_getElem? lefth
     refine s_ (ex_ 0) (z_ (n_ (q_ (ift (sk_ (n_ (k_ (q_ (g_ (r_ (O_entry 0 2 (f := vU32) (p := kT lefta) rfl rfl rfl hborn20) (s_ (ex_ 0) (s_ av_ (z_ (n_ (q_ (g_ (s_ mv_ (s_ (lnS Tryz.underlying33) (s_ mv_ ?_)))))))))))))))))))
     refine z_ (n_ (k_ ?_))
     refine J_loop (X := Nat × (List UInt32)) (fun (⟨j, ny⟩ : Nat × (List UInt32)) => (True) ∧ (∀ s ∈ ny, Q s) ∧ (0 < j → ny ≠ [])) (fun (⟨j, ny⟩ : Nat × (List UInt32)) => [(2, vL endsA ends.length endsC), (3, pB b1 0), (6, vB false), (7, vB false), (8, nodeV ((R40.onV ts steps).getD default)), (10, Value.func (.func 42) #[] #[pB b1 0, pB b2 0]), (11, Value.map (some XB)), (37, vI ((steps.length : Nat) : Int)), (38, vI ((k : Nat) : Int)), (12, vI ((k : Nat) : Int)), (13, Value.map (some b8)), (14, vL (subA endsA endsC k 3) (((ends.drop k).take ((k + 1) - k)).length) (endsC - k)), (54, pB it18 0), (15, vU32 lefta), (59, vL (subA endsA endsC k 3) (((ends.drop k).take ((k + 1) - k)).length) (endsC - k)), (60, vI ((((ends.drop k).take ((k + 1) - k)).length : Nat) : Int)), (61, vI ((j : Nat) : Int))]) (fun (⟨j, ny⟩ : Nat × (List UInt32)) => [Ent.rng vU32 it18 XB es16 ck17 ((left.eraseIdx leftn).map kT) (some (kT lefta)), Ent.mp vU32 b8 (ny.map kT), Ent.mx XB es16 ck17, Ent.blk b2 22 [vL stepsA steps.length stepsC], Ent.blk b1 23 [vL tsA ts.length tsC]]) (fun (⟨j, ny⟩ : Nat × (List UInt32)) => 100 - j) ((0, nx) : Nat × (List UInt32)) ?_ ⟨rfl, rfl, rfl, rfl, rfl, rfl, rfl, rfl, rfl, rfl, rfl, rfl, rfl, rfl, rfl, rfl, rfl, trivial⟩ (fun _ h => h) ?_
     ·try dsimp only
      refine ⟨?_, ?_, ?_⟩
      ·trivial
      ·exact i2_1
      ·exact fun h => absurd h (by omega)
     rintro ⟨j, ny⟩ hI3
     obtain ⟨i3_0, i3_1, i3_2⟩ := hI3
     try dsimp only at i3_0
     try dsimp only at i3_1
     try dsimp only at i3_2
     try have hte := R40.ends_len (ends := ends) (k := k) (by omega)
     try dsimp only
     refine q_ (g_ (s_ (x_lss_i rfl rfl) (z_ (n_ (q_ ?_)))))
     refine ifd (fun h21w h21 => ?_) (fun h21w h21 => ?_)
     ·refine sk_ (n_ (q_ (k_ (q_ (g_ (r_ (ixF StepEnd.enc_len (cells_ro hro15) Tryz.underlying33 Ty.sz38) (r_ (ldFN StepEnd.enc_len (cells_ro hro15) Ty.ag38 Ty.sz38) (o_ (al_ Ty.ze38 fun b22 => ?_)))))))))
      refine o_ (stG 0 Ty.sz38 ?_)
      refine z_ (n_ (g_ (s_ mv_ (s_ mv_ (s_ mv_ (s_ mv_ (r_ (ldN 0 [vB ((((ends.drop k).take ((k + 1) - k)).getD j default).Ran), vB ((((ends.drop k).take ((k + 1) - k)).getD j default).Failed), vI ((((ends.drop k).take ((k + 1) - k)).getD j default).Code)] Ty.ag38 Ty.sz38) ?_)))))))
      refine JO_call [b1, b2] [Ent.blk b1 23 [vL tsA ts.length tsC], Ent.blk b2 22 [vL stepsA steps.length stepsC]] [Ent.blk b22 38 [vB ((((ends.drop k).take ((k + 1) - k)).getD j default).Ran), vB ((((ends.drop k).take ((k + 1) - k)).getD j default).Failed), vI ((((ends.drop k).take ((k + 1) - k)).getD j default).Code)], Ent.rng vU32 it18 XB es16 ck17 ((left.eraseIdx leftn).map kT) (some (kT lefta)), Ent.mp vU32 b8 (ny.map kT), Ent.mx XB es16 ck17] rfl trivial (fun _ => x_callv (first := []) (caps := [pB b1 0, pB b2 0]) rfl Ty.ca42 rfl) (fun _ h => ((((((h.front 3 _ rfl).front 3 _ rfl).front 3 _ rfl).front 3 _ rfl).front 4 _ rfl).front 5 _ rfl).keep [true, true, true, true, true, true] rfl) (own_mem rfl) (fun w hS => f42_ok ((k : Nat) : Int) (((ends.drop k).take ((k + 1) - k)).getD j default) b1 b2 ts tsA tsC steps stepsA stepsC w (tsR.on hS (own_mem rfl)) (stepsR.on hS (own_mem rfl)) hy_ hy_ (by exact fun i => (R40.on_forms q3 i).1) (hS.give (own_in rfl))) ?_
      rintro _ _ ⟨rfl, rfl⟩
      refine s_ (x_or_u32 rfl rfl) ?_
      refine o_ (O_mapUpdate 4 (f := vU32) (k := lefta ||| (R40.bitsV ts steps ((k : Nat) : Int) (((ends.drop k).take ((k + 1) - k)).getD j default))) ((addK ny (lefta ||| (R40.bitsV ts steps ((k : Nat) : Int) (((ends.drop k).take ((k + 1) - k)).getD j default)))).map kT) [Ent.blk b1 23 [vL tsA ts.length tsC], Ent.blk b2 22 [vL stepsA steps.length stepsC], Ent.blk b22 38 [vB ((((ends.drop k).take ((k + 1) - k)).getD j default).Ran), vB ((((ends.drop k).take ((k + 1) - k)).getD j default).Failed), vI ((((ends.drop k).take ((k + 1) - k)).getD j default).Code)], Ent.rng vU32 it18 XB es16 ck17 ((left.eraseIdx leftn).map kT) (some (kT lefta)), Ent.mp vU32 b8 ((addK ny (lefta ||| (R40.bitsV ts steps ((k : Nat) : Int) (((ends.drop k).take ((k + 1) - k)).getD j default)))).map kT), Ent.mx XB es16 ck17] rfl rfl rfl rfl Tryz.underlying76 (mapK_u32 Tryz.underlying74) (upd_kT ny (lefta ||| (R40.bitsV ts steps ((k : Nat) : Int) (((ends.drop k).take ((k + 1) - k)).getD j default)))) rfl ?_)
      refine z_ (kx_ (n_ (g_ (s_ (x_add_n (a := j) (b := 1) rfl rfl (by omega)) (s_ mv_ (z_ ?_))))))
      refine JX_round ((j + 1, (addK ny (lefta ||| (R40.bitsV ts steps ((k : Nat) : Int) (((ends.drop k).take ((k + 1) - k)).getD j default))))) : Nat × (List UInt32)) ?_ ?_ ⟨rfl, rfl, rfl, rfl, rfl, rfl, rfl, rfl, rfl, rfl, rfl, rfl, rfl, rfl, rfl, rfl, rfl, trivial⟩ (fun _ h => ((((h.front 1 _ rfl).front 5 _ rfl).front 5 _ rfl).front 5 _ rfl).keep [true, true, true, true, true, false] rfl)
      ·try dsimp only
       refine ⟨?_, ?_, ?_⟩
       ·trivial
       ·exact c40f2_
       ·exact fun _ => R40.add_ne
      ·try dsimp only
       first | omega | (simp; omega) | (simp_all; omega)
     ·refine J_exit (ne_ (re_ (kh_ (kx_ ?_))))
      refine JX_round (((left.eraseIdx leftn), (some (kT lefta)), ny) : (List UInt32) × (Option (UInt32 × Value)) × (List UInt32)) ?_ ?_ ⟨rfl, rfl, rfl, rfl, rfl, rfl, rfl, rfl, rfl, rfl, rfl, rfl, rfl, trivial⟩ (fun _ h => h)
      ·try dsimp only
       refine ⟨?_, ?_, ?_⟩
       ·exact R40.all_erase i2_0
       ·exact i3_1
       ·exact .inl (i3_2 (by omega))
      ·try dsimp only
       omega
   ·refine sk_ (n_ (q_ (q_ (g_ (s_ mv_ (o_ (O_range 2 (f := vU32) rfl rfl Tryz.underlying76 fun es23 ck24 it25 hes26 hborn27 => ?_)))))))
    refine z_ (xk_ [2, 3, 6, 7, 8, 10, 11, 37, 38, 12, 13, 14, 54] ?_)
    refine n_ (k_ ?_)
    refine J_loop (X := (List UInt32) × (Option (UInt32 × Value)) × (List UInt32)) (fun (⟨left, leftC, nx⟩ : (List UInt32) × (Option (UInt32 × Value)) × (List UInt32)) => (∀ s ∈ left, Q s) ∧ (∀ s ∈ nx, Q s) ∧ (nx ≠ [] ∨ left ≠ [])) (fun (⟨left, leftC, nx⟩ : (List UInt32) × (Option (UInt32 × Value)) × (List UInt32)) => [(2, vL endsA ends.length endsC), (3, pB b1 0), (6, vB false), (7, vB false), (8, nodeV ((R40.onV ts steps).getD default)), (10, Value.func (.func 42) #[] #[pB b1 0, pB b2 0]), (11, Value.map (some XB)), (37, vI ((steps.length : Nat) : Int)), (38, vI ((k : Nat) : Int)), (12, vI ((k : Nat) : Int)), (13, Value.map (some b8)), (14, vL e10 out9.length e11), (54, pB it25 0)]) (fun (⟨left, leftC, nx⟩ : (List UInt32) × (Option (UInt32 × Value)) × (List UInt32)) => [Ent.rng vU32 it25 XB es23 ck24 (left.map kT) leftC, Ent.row (.slice e10 out9.length e11) 38 3 out9.length (out9.flatMap StepEnd.enc), Ent.mp vU32 b8 (nx.map kT), Ent.mx XB es23 ck24, Ent.blk b2 22 [vL stepsA steps.length stepsC], Ent.blk b1 23 [vL tsA ts.length tsC]]) (fun (⟨left, leftC, nx⟩ : (List UInt32) × (Option (UInt32 × Value)) × (List UInt32)) => left.length) ((X, (none : Option (UInt32 × Value)), ([] : List UInt32)) : (List UInt32) × (Option (UInt32 × Value)) × (List UInt32)) ?_ ⟨rfl, rfl, rfl, rfl, rfl, rfl, rfl, rfl, rfl, rfl, rfl, rfl, rfl, trivial⟩ (fun _ h => h) ?_
    ·try dsimp only
     refine ⟨?_, ?_, ?_⟩
     ·exact i1_2
     ·exact fun _ h => (by cases h)
     ·exact .inr i1_1
    rintro ⟨left, leftC, nx⟩ hI2
    obtain ⟨i2_0, i2_1, i2_2⟩ := hI2
    try dsimp only at i2_0
    try dsimp only at i2_1
    try dsimp only at i2_2
    try dsimp only
    refine q_ (g_ ?_)
    refine JO_op rfl trivial (O_next 0 3 (f := vU32) kT rfl rfl rfl hborn27 (fun left0 => ?_) (fun lefta leftn lefth => ?_))
    ·refine s_ (ex_ 0) (z_ (n_ (q_ (iff_ (J_exit (ne_ (re_ (kh_ (n_ (g_ (s_ mv_ (s_ av_ (z_ (kx_ (n_ (g_ (s_ (x_add_n (a := k) (b := 1) rfl rfl (by omega)) (s_ mv_ (z_ ?_)))))))))))))))))))
     refine JX_round ((k + 1, nx, b8) : Nat × (List UInt32) × Nat) ?_ ?_ ⟨rfl, rfl, rfl, rfl, rfl, rfl, rfl, rfl, rfl, trivial⟩ (fun _ h => h.keep [false, false, true, false, true, true] rfl)
     ·try dsimp only
      refine ⟨?_, ?_, ?_⟩
      ·first | rfl | omega | (simp_all; done) | (simp_all; omega)
      ·exact i2_2.resolve_right (fun h => h left0)
      ·exact i2_1
     ·try dsimp only
      first | omega | (simp; omega) | (simp_all; omega)
    ·have leftl := (List.getElem?_eq_some_iff.1 lefth).1
     have lefte := List.length_eraseIdx_of_lt leftl
     have leftm := List.mem_of_getElem? lefth
     refine s_ (ex_ 0) (z_ (n_ (q_ (ift (sk_ (n_ (k_ (q_ (g_ (r_ (O_entry 0 3 (f := vU32) (p := kT lefta) rfl rfl rfl hborn27) (s_ (ex_ 0) (s_ av_ (z_ (n_ (q_ (g_ (s_ mv_ (s_ (lnS Tryz.underlying33) (s_ mv_ ?_)))))))))))))))))))
     refine z_ (n_ (k_ ?_))
     refine J_loop (X := Nat × (List UInt32)) (fun (⟨j, ny⟩ : Nat × (List UInt32)) => (True) ∧ (∀ s ∈ ny, Q s) ∧ (0 < j → ny ≠ [])) (fun (⟨j, ny⟩ : Nat × (List UInt32)) => [(2, vL endsA ends.length endsC), (3, pB b1 0), (6, vB false), (7, vB false), (8, nodeV ((R40.onV ts steps).getD default)), (10, Value.func (.func 42) #[] #[pB b1 0, pB b2 0]), (11, Value.map (some XB)), (37, vI ((steps.length : Nat) : Int)), (38, vI ((k : Nat) : Int)), (12, vI ((k : Nat) : Int)), (13, Value.map (some b8)), (14, vL e10 out9.length e11), (54, pB it25 0), (15, vU32 lefta), (59, vL e10 out9.length e11), (60, vI ((out9.length : Nat) : Int)), (61, vI ((j : Nat) : Int))]) (fun (⟨j, ny⟩ : Nat × (List UInt32)) => [Ent.rng vU32 it25 XB es23 ck24 ((left.eraseIdx leftn).map kT) (some (kT lefta)), Ent.row (.slice e10 out9.length e11) 38 3 out9.length (out9.flatMap StepEnd.enc), Ent.mp vU32 b8 (ny.map kT), Ent.mx XB es23 ck24, Ent.blk b2 22 [vL stepsA steps.length stepsC], Ent.blk b1 23 [vL tsA ts.length tsC]]) (fun (⟨j, ny⟩ : Nat × (List UInt32)) => 100 - j) ((0, nx) : Nat × (List UInt32)) ?_ ⟨rfl, rfl, rfl, rfl, rfl, rfl, rfl, rfl, rfl, rfl, rfl, rfl, rfl, rfl, rfl, rfl, rfl, trivial⟩ (fun _ h => h) ?_
     ·try dsimp only
      refine ⟨?_, ?_, ?_⟩
      ·trivial
      ·exact i2_1
      ·exact fun h => absurd h (by omega)
     rintro ⟨j, ny⟩ hI3
     obtain ⟨i3_0, i3_1, i3_2⟩ := hI3
     try dsimp only at i3_0
     try dsimp only at i3_1
     try dsimp only at i3_2
     try have hte := R40.ends_len (ends := ends) (k := k) (by omega)
     try dsimp only
     refine q_ (g_ (s_ (x_lss_i rfl rfl) (z_ (n_ (q_ ?_)))))
     refine ifd (fun h28w h28 => ?_) (fun h28w h28 => ?_)
     ·refine sk_ (n_ (q_ (k_ (q_ (g_ (r_ (ixF StepEnd.enc_len (cells_row 1 rfl) Tryz.underlying33 Ty.sz38) (r_ (ldFN StepEnd.enc_len (cells_row 1 rfl) Ty.ag38 Ty.sz38) (o_ (al_ Ty.ze38 fun b29 => ?_)))))))))
      refine o_ (stG 0 Ty.sz38 ?_)
      refine z_ (n_ (g_ (s_ mv_ (s_ mv_ (s_ mv_ (s_ mv_ (r_ (ldN 0 [vB ((out9.getD j default).Ran), vB ((out9.getD j default).Failed), vI ((out9.getD j default).Code)] Ty.ag38 Ty.sz38) ?_)))))))
      refine JO_call [b1, b2] [Ent.blk b1 23 [vL tsA ts.length tsC], Ent.blk b2 22 [vL stepsA steps.length stepsC]] [Ent.blk b29 38 [vB ((out9.getD j default).Ran), vB ((out9.getD j default).Failed), vI ((out9.getD j default).Code)], Ent.rng vU32 it25 XB es23 ck24 ((left.eraseIdx leftn).map kT) (some (kT lefta)), Ent.row (.slice e10 out9.length e11) 38 3 out9.length (out9.flatMap StepEnd.enc), Ent.mp vU32 b8 (ny.map kT), Ent.mx XB es23 ck24] rfl trivial (fun _ => x_callv (first := []) (caps := [pB b1 0, pB b2 0]) rfl Ty.ca42 rfl) (fun _ h => (((((((h.front 4 _ rfl).front 4 _ rfl).front 4 _ rfl).front 4 _ rfl).front 4 _ rfl).front 5 _ rfl).front 6 _ rfl).keep [true, true, true, true, true, true, true] rfl) (own_mem rfl) (fun w hS => f42_ok ((k : Nat) : Int) (out9.getD j default) b1 b2 ts tsA tsC steps stepsA stepsC w (tsR.on hS (own_mem rfl)) (stepsR.on hS (own_mem rfl)) hy_ hy_ (by exact fun i => (R40.on_forms q3 i).1) (hS.give (own_in rfl))) ?_
      rintro _ _ ⟨rfl, rfl⟩
      refine s_ (x_or_u32 rfl rfl) (o_ (O_mapUpdate 5 (f := vU32) (k := lefta ||| (R40.bitsV ts steps ((k : Nat) : Int) (out9.getD j default))) ((addK ny (lefta ||| (R40.bitsV ts steps ((k : Nat) : Int) (out9.getD j default)))).map kT) [Ent.blk b1 23 [vL tsA ts.length tsC], Ent.blk b2 22 [vL stepsA steps.length stepsC], Ent.blk b29 38 [vB ((out9.getD j default).Ran), vB ((out9.getD j default).Failed), vI ((out9.getD j default).Code)], Ent.rng vU32 it25 XB es23 ck24 ((left.eraseIdx leftn).map kT) (some (kT lefta)), Ent.row (.slice e10 out9.length e11) 38 3 out9.length (out9.flatMap StepEnd.enc), Ent.mp vU32 b8 ((addK ny (lefta ||| (R40.bitsV ts steps ((k : Nat) : Int) (out9.getD j default)))).map kT), Ent.mx XB es23 ck24] rfl rfl rfl rfl Tryz.underlying76 (mapK_u32 Tryz.underlying74) (upd_kT ny (lefta ||| (R40.bitsV ts steps ((k : Nat) : Int) (out9.getD j default)))) rfl ?_))
      refine z_ (kx_ (n_ (g_ (s_ (x_add_n (a := j) (b := 1) rfl rfl (by omega)) (s_ mv_ (z_ ?_))))))
      refine JX_round ((j + 1, (addK ny (lefta ||| (R40.bitsV ts steps ((k : Nat) : Int) (out9.getD j default))))) : Nat × (List UInt32)) ?_ ?_ ⟨rfl, rfl, rfl, rfl, rfl, rfl, rfl, rfl, rfl, rfl, rfl, rfl, rfl, rfl, rfl, rfl, rfl, trivial⟩ (fun _ h => (((((h.front 1 _ rfl).front 6 _ rfl).front 6 _ rfl).front 6 _ rfl).front 6 _ rfl).keep [true, true, true, true, true, true, false] rfl)
      ·try dsimp only
       refine ⟨?_, ?_, ?_⟩
       ·trivial
       ·exact c40f2_
       ·exact fun _ => R40.add_ne
      ·try dsimp only
       first | omega | (simp; omega) | (simp_all; omega)
     ·refine J_exit (ne_ (re_ (kh_ (kx_ ?_))))
      refine JX_round (((left.eraseIdx leftn), (some (kT lefta)), ny) : (List UInt32) × (Option (UInt32 × Value)) × (List UInt32)) ?_ ?_ ⟨rfl, rfl, rfl, rfl, rfl, rfl, rfl, rfl, rfl, rfl, rfl, rfl, rfl, trivial⟩ (fun _ h => h)
      ·try dsimp only
       refine ⟨?_, ?_, ?_⟩
       ·exact R40.all_erase i2_0
       ·exact i3_1
       ·exact .inl (i3_2 (by omega))
      ·try dsimp only
       omega
  ·refine J_exit (ne_ (re_ (kh_ (n_ (q_ ?_)))))
   refine g_ (o_ (O_makeMap vB fun b30 => ?_))
   refine s_ av_ (z_ (n_ (q_ (q_ (g_ (s_ mv_ (o_ (O_range 1 (f := vU32) rfl rfl Tryz.underlying76 fun es31 ck32 it33 hes34 hborn35 => ?_))))))))
   refine z_ (n_ (k_ ?_))
   refine J_loop (X := (List UInt32) × (Option (UInt32 × Value)) × (List Bool)) (fun (⟨left2, left2C, vs⟩ : (List UInt32) × (Option (UInt32 × Value)) × (List Bool)) => (∀ s ∈ left2, Q s) ∧ (vs.Nodup) ∧ (∀ b ∈ vs, b = bv) ∧ (vs ≠ [] ∨ left2 ≠ [])) (fun (⟨left2, left2C, vs⟩ : (List UInt32) × (Option (UInt32 × Value)) × (List Bool)) => [(6, vB false), (7, vB false), (8, nodeV ((R40.onV ts steps).getD default)), (18, Value.map (some b30)), (77, pB it33 0)]) (fun (⟨left2, left2C, vs⟩ : (List UInt32) × (Option (UInt32 × Value)) × (List Bool)) => [Ent.rng vU32 it33 XB es31 ck32 (left2.map kT) left2C, Ent.mp vB b30 (vs.map kT), Ent.mx XB es31 ck32]) (fun (⟨left2, left2C, vs⟩ : (List UInt32) × (Option (UInt32 × Value)) × (List Bool)) => left2.length) ((X, (none : Option (UInt32 × Value)), ([] : List Bool)) : (List UInt32) × (Option (UInt32 × Value)) × (List Bool)) ?_ ⟨rfl, rfl, rfl, rfl, rfl, trivial⟩ (fun _ h => h.keep [true, true, true, false, false] rfl) ?_
   ·try dsimp only
    refine ⟨?_, ?_, ?_, ?_⟩
    ·exact i1_2
    ·exact List.nodup_nil
    ·exact fun _ h => (by cases h)
    ·exact .inr i1_1
   rintro ⟨left2, left2C, vs⟩ hI4
   obtain ⟨i4_0, i4_1, i4_2, i4_3⟩ := hI4
   try dsimp only at i4_0
   try dsimp only at i4_1
   try dsimp only at i4_2
   try dsimp only at i4_3
   try dsimp only
   refine q_ (g_ ?_)
   refine JO_op rfl trivial (O_next 0 2 (f := vU32) kT rfl rfl rfl hborn35 (fun left20 => ?_) (fun left2a left2n left2h => ?_))
   ·refine s_ (ex_ 0) (z_ (n_ (q_ (iff_ (J_exit (ne_ (re_ (kh_ (n_ (q_ (q_ (g_ (s_ mv_ (r_ (x_len_mp 1 (n := vs.length) rfl rfl Tryz.underlying78 (List.length_map _)) (s_ (x_neq_i rfl rfl) (z_ (n_ ?_)))))))))))))))))
    refine ifd (fun h36w h36 => ?_) (fun h36w h36 => ?_)
    ·exact absurd (R40.vals_len i4_1 i4_2 (i4_3.resolve_right (fun h => h left20))) (by omega)
    ·refine sk_ (n_ (q_ (g_ (s_ mv_ ?_))))
     refine JO_read (vB (hasK vs true)) rfl trivial (x_lookup_v 1 (f := vB) (k := true) rfl rfl rfl Tryz.underlying78 (mapK_b Tryz.underlying4) Ty.ze4 rfl (lk_kT_v vs true)) ?_
     refine s_ av_ (s_ av_ (z_ (n_ (rt_ ?_))))
     exact p2 Tryz.results20 rfl rfl ⟨t2 (eB (R40.vals_has i4_1 i4_2 (i4_3.resolve_right (fun h => h left20)))) rfl, rfl⟩
   ·have left2l := (List.getElem?_eq_some_iff.1 left2h).1
    have left2e := List.length_eraseIdx_of_lt left2l
    have left2m := List.mem_of_getElem? left2h
    refine s_ (ex_ 0) (z_ (n_ (q_ (ift (sk_ (n_ (k_ (q_ (g_ (r_ (O_entry 0 2 (f := vU32) (p := kT left2a) rfl rfl rfl hborn35) (s_ (ex_ 0) (o_ (al_ Ty.ze74 fun b37 => ?_)))))))))))))
    refine o_ (st1 0 Ty.sz74 ?_)
    refine z_ (n_ (g_ (s_ mv_ (s_ mv_ (js_ (Value.func (.func 44) #[] #[pB b37 0]) (x_makeFunc rfl rfl) ?_)))))
    refine JO_call [b37] [Ent.blk b37 74 [vU32 left2a]] [Ent.rng vU32 it33 XB es31 ck32 ((left2.eraseIdx left2n).map kT) (some (kT left2a)), Ent.mp vB b30 (vs.map kT), Ent.mx XB es31 ck32] rfl trivial (fun _ => x_call Ty.ca33 rfl) (fun _ h => h) (own_mem rfl) (fun w hS => feval2_ok ((R40.onV ts steps).getD default) b37 left2a w (by exact R40.on_ix q3) (hS.give (own_in rfl))) ?_
    rintro _ _ ⟨rfl, rfl⟩
    refine o_ (O_mapUpdate 2 (f := vB) (k := R40.eval (R40.leafB left2a) ((R40.onV ts steps).getD default)) ((addK vs (R40.eval (R40.leafB left2a) ((R40.onV ts steps).getD default))).map kT) [Ent.blk b37 74 [vU32 left2a], Ent.rng vU32 it33 XB es31 ck32 ((left2.eraseIdx left2n).map kT) (some (kT left2a)), Ent.mp vB b30 ((addK vs (R40.eval (R40.leafB left2a) ((R40.onV ts steps).getD default))).map kT), Ent.mx XB es31 ck32] rfl rfl rfl rfl Tryz.underlying78 (mapK_b Tryz.underlying4) (upd_kT vs (R40.eval (R40.leafB left2a) ((R40.onV ts steps).getD default))) rfl ?_)
    refine z_ (kx_ ?_)
    refine JX_round (((left2.eraseIdx left2n), (some (kT left2a)), (addK vs (R40.eval (R40.leafB left2a) ((R40.onV ts steps).getD default)))) : (List UInt32) × (Option (UInt32 × Value)) × (List Bool)) ?_ ?_ ⟨rfl, rfl, rfl, rfl, rfl, trivial⟩ (fun _ h => h.keep [false, true, true, true] rfl)
    ·try dsimp only
     refine ⟨?_, ?_, ?_, ?_⟩
     ·exact R40.all_erase i4_0
     ·exact addK_nodup i4_1
     ·exact R40.all_add i4_2 (q6 _ (i4_0 _ left2m))
     ·exact .inl R40.add_ne
    ·try dsimp only
     omega
end Go.Proofs.YtngjdmhpljmkpaaGreatDoor

namespace Go.Proofs
open Go.Shelf
open Go.RowKit Go.Lib Go.Sort
def Tryz.lays190_ren : Go.Shelf.Ren := ⟨fun | 190 => 40 | 125 => 64 | 258 => 63 | 128 => 87 | 129 => 88 | 302 => 78 | 303 => 79 | 304 => 80 | 305 => 81 | 306 => 82 | 307 => 83 | 308 => 84 | 309 => 85 | 310 => 86 | 333 => 95 | 329 => 96 | 330 => 97 | 334 => 98 | 335 => 99 | 336 => 100 | 344 => 113 | n => n, fun | 31 => 22 | 9 => 9 | 3 => 3 | 46 => 100 | 0 => 0 | 51 => 74 | 53 => 119 | 4 => 4 | 183 => 111 | 182 => 110 | 131 => 81 | 5 => 5 | 218 => 122 | 222 => 126 | 228 => 138 | 229 => 139 | n => n, fun | n => n⟩
def Tryz.lays194_ren : Go.Shelf.Ren := ⟨fun | 194 => 41 | n => n, fun | 31 => 22 | 9 => 9 | 3 => 3 | 4 => 4 | 0 => 0 | n => n, fun | n => n⟩
end Go.Proofs

namespace Go.Proofs.YtngjdmhpljmkpaaGreatDoor
open Go.GV Go.RowKit Go.Sort
end Go.Proofs.YtngjdmhpljmkpaaGreatDoor
