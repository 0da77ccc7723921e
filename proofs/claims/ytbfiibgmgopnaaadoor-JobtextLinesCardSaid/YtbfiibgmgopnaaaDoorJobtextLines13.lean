/- C39g, Pl39n, C39h in one text. -/
import Derived.Test.YtbfiibgmgopnaaaDoorJobtextLines12
set_option linter.unusedVariables false
set_option linter.unusedSimpArgs false
namespace Go.Proofs.YtbfiibgmgopnaaaDoor
open Go.GV
set_option linter.unusedVariables false
set_option linter.unusedSimpArgs false
set_option maxHeartbeats 2000000 in
set_option maxRecDepth 20000 in
theorem read_in (r : Nat) (mB : Nat) (M : List (Bytes × Bytes)) (pr : Value) (o : List Statement) (oA : Option Addr) (oC : Nat) (oN : Nat) (rows : List Row) (rowsA : Option Addr) (rowsC : Nat) (cl : Bytes) (w : World) (rowsR : RO (Lown [Ent.blk r 77 [Value.map (some mB), pr, vL oA oN oC], Ent.mp vS mB (M.map kvS), Ent.row (.slice oA oN oC) 40 4 oN (o.flatMap Statement.enc)]) w rowsA (rows.flatMap Row.enc)) (hT : Tab (Lown [Ent.blk r 77 [Value.map (some mB), pr, vL oA oN oC], Ent.mp vS mB (M.map kvS), Ent.row (.slice oA oN oC) 40 4 oN (o.flatMap Statement.enc)]) w) (oQ : oN = o.length) (q0 : rows.length ≤ rowsC) (q1 : rows.length ≤ 100000) (q2 : ∀ i, (rows.getD i default).text.length ≤ 20000) (q3 : R39.ShortV M) (q4 : o.length ≤ 400) (hg : Give (Lown [Ent.blk r 77 [Value.map (some mB), pr, vL oA oN oC], Ent.mp vS mB (M.map kvS), Ent.row (.slice oA oN oC) 40 4 oN (o.flatMap Statement.enc)]) w [Ent.blk r 77 [Value.map (some mB), pr, vL oA oN oC], Ent.mp vS mB (M.map kvS), Ent.row (.slice oA oN oC) 40 4 oN (o.flatMap Statement.enc)]) : Calls Tryd.prog 39 #[pB r 0, vG [vL rowsA rows.length rowsC, vS cl, vB true]] w (GivesW (Lown [Ent.blk r 77 [Value.map (some mB), pr, vL oA oN oC], Ent.mp vS mB (M.map kvS), Ent.row (.slice oA oN oC) 40 4 oN (o.flatMap Statement.enc)]) w fun v L wx => ∃ fl : Int, ∃ fc : Int, ∃ y : List Statement, ∃ yA : Option Addr, ∃ yC : Nat, ∃ N : List Statement, v = vG [vI fl, vI fc] ∧ L = [Ent.blk r 77 [Value.map (some mB), pr, vL yA y.length yC], Ent.mp vS mB (M.map kvS), Ent.row (.slice yA y.length yC) 40 4 y.length (y.flatMap Statement.enc)] ∧ Kp (Lown L ++ List.range w.heap.size) wx (okL Statement.ok N) ∧ (y = o ++ N) ∧ (y.length ≤ 400) ∧ (∀ P, R39.RdJ (R39.readIn cl rows ⟨lookK M, P, o.map R39.pur⟩) fl fc ⟨lookK M, P, (o ++ N).map R39.pur⟩)) := by
 subst oQ
 refine calls_JW (Lown [Ent.blk r 77 [Value.map (some mB), pr, vL oA o.length oC], Ent.mp vS mB (M.map kvS), Ent.row (.slice oA o.length oC) 40 4 o.length (o.flatMap Statement.enc)]) 31 Tryd.func39 rfl Tryd.ntmps39 [(0, _), (1, _)] rfl rfl hg ?_
 refine q_ (g_ (o_ (bxG fun b1 => ?_)))
 refine o_ (al_ Ty.ze79 fun b2 => ?_)
 refine z_ (n_ (q_ (g_ ?_)))
 refine c1 (cl_ Ty.ca62) (fun w hS => f62_ok w) ?_
 rintro _ _ ⟨kb3, rfl, rfl⟩
 refine s_ av_ (z_ (n_ (q_ (k_ ?_))))
 refine J_loopB (X := (List Row) × (Option Addr) × Nat × (List Statement) × (Option Addr) × Nat) (fun (⟨X, XA, XC, z, zA, zC⟩ : (List Row) × (Option Addr) × Nat × (List Statement) × (Option Addr) × Nat) => (z = o ++ z.drop o.length) ∧ (∀ P, R39.readIn cl rows ⟨lookK M, P, o.map R39.pur⟩ = R39.readIn cl X ⟨lookK M, P, z.map R39.pur⟩) ∧ (z.length ≤ 400) ∧ (X.length ≤ rows.length) ∧ (X.length ≤ XC) ∧ (∀ i, (X.getD i default).text.length ≤ 20000)) (fun (⟨X, XA, XC, z, zA, zC⟩ : (List Row) × (Option Addr) × Nat × (List Statement) × (Option Addr) × Nat) wx => RO (Lown [Ent.mp vS kb3 [([115, 101, 116], Value.func (.func 86) #[] #[]), ([112, 114, 111, 99], Value.func (.func 87) #[] #[]), ([101, 110, 100], Value.func (.func 88) #[] #[]), ([99, 97, 108, 108], Value.func (.func 89) #[] #[]), ([106, 111, 98], Value.func (.func 90) #[] #[]), ([115, 116, 101, 112], Value.func (.func 90) #[] #[]), ([100, 100], Value.func (.func 90) #[] #[])], Ent.blk b2 79 [vI 0, vI 0], Ent.blk b1 82 [vL XA X.length XC, vS cl, vB true], Ent.blk r 77 [Value.map (some mB), pr, vL zA z.length zC], Ent.mp vS mB (M.map kvS), Ent.row (.slice zA z.length zC) 40 4 z.length (z.flatMap Statement.enc)]) wx XA (X.flatMap Row.enc) ∧ Kp (Lown [Ent.mp vS kb3 [([115, 101, 116], Value.func (.func 86) #[] #[]), ([112, 114, 111, 99], Value.func (.func 87) #[] #[]), ([101, 110, 100], Value.func (.func 88) #[] #[]), ([99, 97, 108, 108], Value.func (.func 89) #[] #[]), ([106, 111, 98], Value.func (.func 90) #[] #[]), ([115, 116, 101, 112], Value.func (.func 90) #[] #[]), ([100, 100], Value.func (.func 90) #[] #[])], Ent.blk b2 79 [vI 0, vI 0], Ent.blk b1 82 [vL XA X.length XC, vS cl, vB true], Ent.blk r 77 [Value.map (some mB), pr, vL zA z.length zC], Ent.mp vS mB (M.map kvS), Ent.row (.slice zA z.length zC) 40 4 z.length (z.flatMap Statement.enc)] ++ List.range w.heap.size) wx (okL Statement.ok (z.drop o.length))) (fun (⟨X, XA, XC, z, zA, zC⟩ : (List Row) × (Option Addr) × Nat × (List Statement) × (Option Addr) × Nat) => [(0, pB r 0), (3, pB b1 0), (4, pB b2 0), (5, Value.map (some kb3))]) (fun (⟨X, XA, XC, z, zA, zC⟩ : (List Row) × (Option Addr) × Nat × (List Statement) × (Option Addr) × Nat) => [Ent.mp vS kb3 [([115, 101, 116], Value.func (.func 86) #[] #[]), ([112, 114, 111, 99], Value.func (.func 87) #[] #[]), ([101, 110, 100], Value.func (.func 88) #[] #[]), ([99, 97, 108, 108], Value.func (.func 89) #[] #[]), ([106, 111, 98], Value.func (.func 90) #[] #[]), ([115, 116, 101, 112], Value.func (.func 90) #[] #[]), ([100, 100], Value.func (.func 90) #[] #[])], Ent.blk b2 79 [vI 0, vI 0], Ent.blk b1 82 [vL XA X.length XC, vS cl, vB true], Ent.blk r 77 [Value.map (some mB), pr, vL zA z.length zC], Ent.mp vS mB (M.map kvS), Ent.row (.slice zA z.length zC) 40 4 z.length (z.flatMap Statement.enc)]) (fun (⟨X, XA, XC, z, zA, zC⟩ : (List Row) × (Option Addr) × Nat × (List Statement) × (Option Addr) × Nat) => X.length) ((rows, rowsA, rowsC, o, oA, oC) : (List Row) × (Option Addr) × Nat × (List Statement) × (Option Addr) × Nat) ?_ ⟨rfl, rfl, rfl, rfl, trivial⟩ (fun _ h => h) (fun wx hw => ⟨(rowsR.again (hw)), R39.kept_start⟩) ?_
 ·try dsimp only
  refine ⟨?_, ?_, ?_, ?_, ?_, ?_⟩
  ·exact R39.pre_start
  ·exact fun _ => rfl
  ·first | rfl | omega | (simp_all; done) | (simp_all; omega)
  ·first | rfl | omega | (simp_all; done) | (simp_all; omega)
  ·first | rfl | omega | (simp_all; done) | (simp_all; omega)
  ·assumption
 rintro ⟨X, XA, XC, z, zA, zC⟩ wb1 hI1 hW1 hB1
 have rowsR := rowsR.again hB1
 have hT := hT.again hB1
 obtain ⟨XR, kz0⟩ := hW1
 have kz := kz0.fromF
 obtain ⟨i1_0, i1_1, i1_2, i1_3, i1_4, i1_5⟩ := hI1
 try dsimp only at i1_0
 try dsimp only at i1_1
 try dsimp only at i1_2
 try dsimp only at i1_3
 try dsimp only at i1_4
 try dsimp only at i1_5
 try dsimp only
 refine q_ (q_ (g_ (s_ (fA 0 Ty.fi82_0) (r_ (ld_ 2 Ty.sc68) (s_ (lnS Tryd.underlying68) (s_ (x_gtr_i rfl rfl) (z_ (n_ ?_))))))))
 refine ifd (fun h4w h4 => ?_) (fun h4w h4 => ?_)
 ·refine sk_ (n_ (k_ (q_ (g_ (s_ mv_ (s_ mv_ (r_ (ldN 2 [vL XA X.length XC, vS cl, vB true] Ty.ag82 Ty.sz82) ?_)))))))
  refine JO_callB (Lown [Ent.blk r 77 [Value.map (some mB), pr, vL zA z.length zC], Ent.mp vS mB (M.map kvS), Ent.mp vS kb3 [([115, 101, 116], Value.func (.func 86) #[] #[]), ([112, 114, 111, 99], Value.func (.func 87) #[] #[]), ([101, 110, 100], Value.func (.func 88) #[] #[]), ([99, 97, 108, 108], Value.func (.func 89) #[] #[]), ([106, 111, 98], Value.func (.func 90) #[] #[]), ([115, 116, 101, 112], Value.func (.func 90) #[] #[]), ([100, 100], Value.func (.func 90) #[] #[])], Ent.row (.slice zA z.length zC) 40 4 z.length (z.flatMap Statement.enc)]) [Ent.blk r 77 [Value.map (some mB), pr, vL zA z.length zC], Ent.mp vS mB (M.map kvS), Ent.mp vS kb3 [([115, 101, 116], Value.func (.func 86) #[] #[]), ([112, 114, 111, 99], Value.func (.func 87) #[] #[]), ([101, 110, 100], Value.func (.func 88) #[] #[]), ([99, 97, 108, 108], Value.func (.func 89) #[] #[]), ([106, 111, 98], Value.func (.func 90) #[] #[]), ([115, 116, 101, 112], Value.func (.func 90) #[] #[]), ([100, 100], Value.func (.func 90) #[] #[])], Ent.row (.slice zA z.length zC) 40 4 z.length (z.flatMap Statement.enc)] [Ent.blk b2 79 [vI 0, vI 0], Ent.blk b1 82 [vL XA X.length XC, vS cl, vB true]] rfl trivial (fun _ => x_call Ty.ca63 rfl) (fun _ h => ((((((h.front 2 _ rfl).front 2 _ rfl).front 5 _ rfl).front 3 _ rfl).front 5 _ rfl).front 5 _ rfl).keep [true, true, true, true, true, true] rfl) lown_mem (fun w hS => line_in r kb3 mB M pr z zA zC z.length X XA XC cl w (XR.on hS lown_mem) (hT.on hS lown_mem) hy_ hy_ hy_ hy_ hy_ hy_ hy_ (hS.give lown_in)) ?_
  rintro wc _ _ wbhB15 ⟨n5, fl6, fc7, y8, yA9, yC10, N11, rfl, rfl, kf16, hf12, hf13, hf14⟩ hc0 hB15
  have rowsR := rowsR.again hB15
  have XR := XR.again hB15
  have hT := hT.again hB15
  have kz0 := kz0.againF hB15
  have kz := kz.again hB15
  have kf160 := kf16.mono (lown_rangeAF (w00 := w) hc0 (hB1.back _ _ hc0).fr.size)
  have kf16 := kf16.mono (lown_rangeA hc0)
  refine s_ mv_ (s_ (ex_ 0) (s_ (ex_ 1) (o_ (al_ Ty.ze79 fun b17 => ?_))))
  refine s_ av_ (o_ (stG 0 Ty.sz79 ?_))
  refine z_ (n_ (q_ (q_ (g_ (s_ (fA 1 Ty.fi79_1) (r_ (ld_ 0 Ty.sc25) (s_ (x_neq_i rfl rfl) (z_ (n_ ?_)))))))))
  refine ifd (fun h18w h18 => ?_) (fun h18w h18 => ?_)
  ·refine q_ (g_ (r_ (ldN 0 [vI fl6, vI fc7] Ty.ag79 Ty.sz79) (o_ (stG 5 Ty.sz79 ?_))))
   refine z_ (xk_ [0, 3, 4, 5, 6] ?_)
   refine n_ (rt_ (nr_ (kq_ ?_)))
   refine JX_roundB_ret ?_
   refine kq_ (nr_ ?_)
   refine JX_retsD [_] _ Tryd.results39 (fun w h => ⟨⟨_, rfl, load_blkN 5 [vI fl6, vI fc7] h rfl Ty.ag79 Ty.sz79 rfl⟩, trivial⟩) rfl _ (fun _ h => h.keep [false, true, true, false, true, false, false] rfl) (fun _ _ h => (hB1.back _ _ (hB15.back _ _ h))) (fun wx hw => ⟨fl6, fc7, y8, yA9, yC10, (y8.drop o.length), ?_, ?_, (R39.kept_more hf12 i1_0 (kz0.againF (hw.keep [false, true, true, false, true, false, false] rfl)) (kf160.againF (hw.keep [false, true, true, false, true, false, false] rfl))), ?_, ?_, ?_⟩)
   ·rfl
   ·rfl
   ·first | exact i1_0 | exact R39.pre_more hf12 i1_0
   ·first | assumption | omega
   ·intro P
    first
     | (rw [← i1_0]; exact .inl ⟨R39.read_done (i1_1 P) (by omega), rfl, rfl⟩)
     | exact .inr ⟨R39.read_err (i1_1 P) (by omega) (R39.LnJ.erA hf14 (by assumption) P), by assumption⟩
  ·obtain ⟨k19, rfl, hkk⟩ := R39.LnJ.okA hf14 (by assumption)
   have hkx := R39.lineIn_rows (hkk [])
   rw [List.length_drop] at hkx
   refine sk_ (n_ (g_ (s_ (fA 0 Ty.fi82_0) (r_ (ld_ 6 Ty.sc68) (s_ mv_ (s_ (x_add_n (a := k19) (b := 1) rfl rfl (by omega)) (s_ (x_subrow (lo := k19 + 1) (hi := X.length) rfl Tryd.underlying68 Ty.sz73 (.inl rfl) (.inr ⟨rfl, rfl⟩) lt_ lt_) ?_)))))))
   have hro20 := RO.subF XR Row.enc_len XC (k19 + 1) (X.length - (k19 + 1)) lt_
   rw [show X.length - (k19 + 1) = (X.drop (k19 + 1)).length from List.length_drop.symm, List.take_length] at hro20
   refine JO_weaken (E' := [(0, pB r 0), (3, pB b1 0), (4, pB b2 0), (5, Value.map (some kb3)), (9, pB b1 0), (10, vL XA X.length XC), (11, vI ((X.length : Nat) : Int)), (12, vB (decide ((0 : Int) < ((X.length : Nat) : Int)))), (14, pB r 0), (15, Value.map (some kb3)), (16, vG [vL XA X.length XC, vS cl, vB true]), (17, Value.tuple #[vI ((k19 : Nat) : Int), vG [vI fl6, vI fc7]]), (13, Value.tuple #[vI ((k19 : Nat) : Int), vG [vI fl6, vI fc7]]), (18, vI ((k19 : Nat) : Int)), (19, vG [vI fl6, vI fc7]), (7, pB b17 0), (6, vI ((k19 : Nat) : Int)), (20, pB b17 1), (21, vI fc7), (22, vB (decide (fc7 ≠ 0))), (24, pB b1 0), (25, vL XA X.length XC), (26, vI ((k19 : Nat) : Int)), (27, vI ((k19 + 1 : Nat) : Int)), (28, vL (subA XA XC (k19 + 1) 2) ((X.drop (k19 + 1)).length) (XC - (k19 + 1)))]) (L' := [Ent.blk b17 79 [vI fl6, vI fc7], Ent.blk r 77 [Value.map (some mB), pr, vL yA9 y8.length yC10], Ent.mp vS mB (M.map kvS), Ent.mp vS kb3 [([115, 101, 116], Value.func (.func 86) #[] #[]), ([112, 114, 111, 99], Value.func (.func 87) #[] #[]), ([101, 110, 100], Value.func (.func 88) #[] #[]), ([99, 97, 108, 108], Value.func (.func 89) #[] #[]), ([106, 111, 98], Value.func (.func 90) #[] #[]), ([115, 116, 101, 112], Value.func (.func 90) #[] #[]), ([100, 100], Value.func (.func 90) #[] #[])], Ent.row (.slice yA9 y8.length yC10) 40 4 y8.length (y8.flatMap Statement.enc), Ent.blk b2 79 [vI 0, vI 0], Ent.blk b1 82 [vL XA X.length XC, vS cl, vB true]]) ⟨rfl, rfl, rfl, rfl, rfl, rfl, rfl, rfl, rfl, rfl, rfl, rfl, rfl, rfl, rfl, rfl, rfl, rfl, rfl, rfl, rfl, rfl, rfl, rfl, (congrArg (fun n : Nat => some (Value.slice (subA XA XC (k19 + 1) 2) n (XC - (k19 + 1)))) (by exact List.length_drop.symm)), trivial⟩ (fun _ h => h) ?_
   refine s_ (fA 0 Ty.fi82_0) (o_ (st1 6 Ty.sz68 ?_))
   refine z_ (kx_ ?_)
   refine JX_roundB (((X.drop (k19 + 1)), (subA XA XC (k19 + 1) 2), XC - (k19 + 1), y8, yA9, yC10) : (List Row) × (Option Addr) × Nat × (List Statement) × (Option Addr) × Nat) ?_ ?_ ⟨rfl, rfl, rfl, rfl, trivial⟩ (fun _ _ h => (hB1.back _ _ (hB15.back _ _ h))) (fun _ h => ((((((h.front 4 _ rfl).front 3 _ rfl).front 3 _ rfl).front 6 _ rfl).front 6 _ rfl).front 6 _ rfl).keep [true, true, true, true, true, true, false] rfl) (fun wx hw => ⟨(hro20.again (((((((hw.front 4 _ rfl).front 3 _ rfl).front 3 _ rfl).front 6 _ rfl).front 6 _ rfl).front 6 _ rfl).keep [true, true, true, true, true, true, false] rfl)), (R39.kept_more hf12 i1_0 (kz0.againF (((((((hw.front 4 _ rfl).front 3 _ rfl).front 3 _ rfl).front 6 _ rfl).front 6 _ rfl).front 6 _ rfl).keep [true, true, true, true, true, true, false] rfl)) (kf160.againF (((((((hw.front 4 _ rfl).front 3 _ rfl).front 3 _ rfl).front 6 _ rfl).front 6 _ rfl).front 6 _ rfl).keep [true, true, true, true, true, true, false] rfl)))⟩)
   ·try dsimp only
    refine ⟨?_, ?_, ?_, ?_, ?_, ?_⟩
    ·exact R39.pre_more hf12 i1_0
    ·intro P
     rw [hf12]
     exact R39.read_step (i1_1 P) (by omega) (hkk P)
    ·first | rfl | omega | (simp_all; done) | (simp_all; omega)
    ·rw [List.length_drop]; omega
    ·rw [List.length_drop]; omega
    ·exact R39.txt_drop i1_5 _
   ·try dsimp only
    rw [List.length_drop]; omega
 ·refine J_exit (ne_ (JX_roundB_exit (kh_ (n_ (q_ ?_)))))
  refine g_ (js_ (vG [vI 0, vI 0]) (x_build (by kernel_rfl)) (o_ (stG 1 Ty.sz79 ?_)))
  refine z_ (n_ (rt_ ?_))
  refine JX_retsD [_] _ Tryd.results39 (fun w h => ⟨⟨_, rfl, load_blkN 1 [vI 0, vI 0] h rfl Ty.ag79 Ty.sz79 rfl⟩, trivial⟩) rfl _ (fun _ h => h.keep [false, false, false, true, true, true] rfl) (fun _ _ h => (hB1.back _ _ h)) (fun wx hw => ⟨0, 0, z, zA, zC, (z.drop o.length), ?_, ?_, (kz0.againF (hw.keep [false, false, false, true, true, true] rfl)), ?_, ?_, ?_⟩)
  ·rfl
  ·rfl
  ·first | exact i1_0 | exact R39.pre_more no_such_condition i1_0
  ·first | assumption | omega
  ·intro P
   first
    | (rw [← i1_0]; exact .inl ⟨R39.read_done (i1_1 P) (by omega), rfl, rfl⟩)
    | exact .inr ⟨R39.read_err (i1_1 P) (by omega) (R39.LnJ.erA no_such_condition (by assumption) P), by assumption⟩
end Go.Proofs.YtbfiibgmgopnaaaDoor

namespace Go.Proofs.YtbfiibgmgopnaaaDoor
open Go.GV
namespace R39
abbrev PL := List (Bytes × Proc)
def prcV (x : Proc) : Value := vG (Proc.enc x)
def procE (p : Bytes × Proc) : Bytes × Value := (p.1, prcV p.2)
def PkA (P : PL) (w : World) : Prop := ∀ p ∈ P, Proc.ok p.2 w
def PgA (P : PL) : Prop := ∀ p ∈ P, ShortV p.2.vals ∧ KeysNd p.2.vals ∧ p.2.rows.length ≤ p.2.rowsC ∧ p.2.rows.length ≤ 100000 ∧ ∀ i, (p.2.rows.getD i default).text.length ≤ 20000
def purP (p : Bytes × Proc) : Bytes × Pr := (p.1, ⟨p.2.vals, p.2.rows⟩)
theorem find_pur (P : PL) (k : Bytes) : findP (P.map purP) k = (lookK P k).map fun x => ⟨x.vals, x.rows⟩ := by
  induction P with
  | nil => rfl
  | cons p P ih =>
    unfold findP lookK at *
    rw [List.map_cons, List.find?_cons, List.find?_cons]
    show Option.map _ (match decide (p.1 = k) with | true => some (purP p) | false => _) = _
    cases decide (p.1 = k) with
    | true => rfl
    | false => exact ih
theorem find_some {P : PL} {k : Bytes} (h : (lookK P k).isSome = true) : ∃ x : Proc, lookK P k = some x ∧ ∃ q, (q, x) ∈ P := by
  obtain ⟨x, hx⟩ := Option.isSome_iff_exists.1 h
  refine ⟨x, hx, ?_⟩
  unfold lookK at hx
  cases e : P.find? (fun p => p.1 = k) with
  | none => rw [e] at hx; cases hx
  | some p => rw [e] at hx; cases hx; exact ⟨p.1, List.mem_of_find?_eq_some e⟩
theorem find_none {P : PL} {k : Bytes} (h : (lookK P k).isSome = false) : lookK P k = none := by
  cases e : lookK P k with
  | none => rfl
  | some x => rw [e] at h; cases h
theorem lk_procs (P : PL) (k : Bytes) : lk (P.map procE) k = (lookK P k).map prcV := lk_map prcV k P
theorem lk_p {P : PL} {k : Bytes} {x : Proc} (h : lookK P k = some x) : lk (P.map procE) k = some (prcV x) := by rw [lk_procs, h]; rfl
theorem lk_n {P : PL} {k : Bytes} (h : lookK P k = none) : lk (P.map procE) k = none := by rw [lk_procs, h]; rfl
theorem upd_procs (P : PL) (k : Bytes) (x : Proc) : upd (P.map procE) k (prcV x) = (putK P k x).map procE := upd_map prcV k x P
theorem pk_at {S : List Nat} {w : World} {P : PL} {x : Proc} {q : Bytes} (h : Kp S w (PkA P)) (hm : (q, x) ∈ P) : Kp S w (Proc.ok x) := h.imp fun _ k => k _ hm
theorem mem_short {ws : List Bytes} {B : Nat} (h : ∀ i, (ws.getD i []).length ≤ B) (k : Nat) : ∀ w ∈ ws.drop k, w.length ≤ B := fun w hw => by
  obtain ⟨i, hi, rfl⟩ := List.getElem_of_mem (List.mem_of_mem_drop hw)
  have := h i
  rwa [List.getD_eq_getElem?_getD, List.getElem?_eq_getElem hi] at this
def CallJ (vals V left : List KV) : Prop := ∀ p ∈ V, p ∈ left ∨ (lookK vals p.1).isSome = true
section
variable {vals V left X D : List KV} {p : KV} {n : Nat}
theorem CallJ.start : CallJ vals V V := fun p h => .inl h
theorem CallJ.step (h : CallJ vals V left) (hp : left[n]? = some p) (hs : (lookK vals p.1).isSome = true) : CallJ vals V (left.eraseIdx n) := fun q hq => by
  rcases h q hq with h1 | h1
  · obtain ⟨i, hi, hie⟩ := List.getElem_of_mem h1
    by_cases e : i = n
    · subst e
      rw [List.getElem?_eq_getElem hi, hie] at hp
      injection hp with hp; subst hp
      exact .inr hs
    · exact .inl (List.mem_eraseIdx_iff_getElem?.2 ⟨i, e, by rw [List.getElem?_eq_getElem hi, hie]⟩)
  · exact .inr h1
theorem CallJ.done (h : CallJ vals V left) (h0 : left = []) : V.all (fun q => (look vals q.1).isSome) = true := by
  rw [List.all_eq_true]
  intro q hq
  rcases h q hq with h1 | h1
  · rw [h0] at h1; cases h1
  · exact h1
theorem CallJ.bad (hm : p ∈ V) (hs : (lookK vals p.1).isSome = false) : V.all (fun q => (look vals q.1).isSome) = false := by
  cases e : V.all (fun q => (look vals q.1).isSome) with
  | false => rfl
  | true =>
    have := List.all_eq_true.1 e p hm
    rw [look_eq, hs] at this; cases this
end
section
variable {num : Int} {ws : List Bytes} {m : Syms} {P : PL} {o y N : List Statement} {V : List KV} {x : Proc}
theorem call_words {a b c : Bool} (h : ((decide (((ws.length : Nat) : Int) < 3) || !symV (ws.getD 1 [])) || !symV (ws.getD 2 [])) = true) : ws.length < 3 ∨ symV (ws.getD 1 []) = false ∨ symV (ws.getD 2 []) = false := by
  simp only [Bool.or_eq_true, decide_eq_true_eq, Bool.not_eq_true'] at h
  rcases h with (h | h) | h
  · exact .inl (by omega)
  · exact .inr (.inl h)
  · exact .inr (.inr h)
theorem call_wordsN (h : ((decide (((ws.length : Nat) : Int) < 3) || !symV (ws.getD 1 [])) || !symV (ws.getD 2 [])) = false) : ¬ (ws.length < 3 ∨ symV (ws.getD 1 []) = false ∨ symV (ws.getD 2 []) = false) := by
  simp only [Bool.or_eq_false_iff, decide_eq_false_iff_not, Bool.not_eq_false'] at h
  rintro (h1 | h1 | h1)
  · omega
  · rw [h.1.2] at h1; cases h1
  · rw [h.2] at h1; cases h1
abbrev rsOf (m : Syms) (P : PL) (o : List Statement) : RS := ⟨m, P.map purP, o.map pur⟩
theorem call_e3 (h : ((decide (((ws.length : Nat) : Int) < 3) || !symV (ws.getD 1 [])) || !symV (ws.getD 2 [])) = true) : callV num ws (rsOf m P o) = .error (num, 3) := by
  unfold callV; rw [if_pos (call_words (a := true) (b := true) (c := true) h)]
theorem call_e3v (h : ((decide (((ws.length : Nat) : Int) < 3) || !symV (ws.getD 1 [])) || !symV (ws.getD 2 [])) = false) (hv : (valsV (ws.drop 3)).isSome = false) : callV num ws (rsOf m P o) = .error (num, 3) := by
  unfold callV; rw [if_neg (call_wordsN h)]
  cases e : valsV (ws.drop 3) with
  | none => rfl
  | some v => rw [e] at hv; cases hv
theorem call_e4 (h : ((decide (((ws.length : Nat) : Int) < 3) || !symV (ws.getD 1 [])) || !symV (ws.getD 2 [])) = false) (hv : valsV (ws.drop 3) = some V) (hp : lookK P (ws.getD 2 []) = none) : callV num ws (rsOf m P o) = .error (num, 4) := by
  unfold callV; rw [if_neg (call_wordsN h), hv]
  show (match findP (P.map purP) (ws.getD 2 []) with | none => _ | some p => _) = _
  rw [find_pur, hp]; rfl
theorem call_x (h : ((decide (((ws.length : Nat) : Int) < 3) || !symV (ws.getD 1 [])) || !symV (ws.getD 2 [])) = false) (hv : valsV (ws.drop 3) = some V) (hp : lookK P (ws.getD 2 []) = some x) : callV num ws (rsOf m P o) = if V.all (fun q => (look x.vals q.1).isSome) = true then
          (match readIn (ws.getD 1 []) x.rows ⟨over (over m x.vals) V, P.map purP, o.map pur⟩ with
            | .error e => .error e
            | .ok s' => .ok (0, { s' with syms := m }))
        else .error (num, 4) := by
  unfold callV; rw [if_neg (call_wordsN h), hv]
  show (match findP (P.map purP) (ws.getD 2 []) with | none => _ | some p => _) = _
  rw [find_pur, hp]; rfl
theorem call_e4v (h : ((decide (((ws.length : Nat) : Int) < 3) || !symV (ws.getD 1 [])) || !symV (ws.getD 2 [])) = false) (hv : valsV (ws.drop 3) = some V) (hp : lookK P (ws.getD 2 []) = some x) (ha : V.all (fun q => (look x.vals q.1).isSome) = false) : callV num ws (rsOf m P o) = .error (num, 4) := by
  rw [call_x h hv hp, if_neg (by rw [ha]; decide)]
theorem call_read (h : ((decide (((ws.length : Nat) : Int) < 3) || !symV (ws.getD 1 [])) || !symV (ws.getD 2 [])) = false) (hv : valsV (ws.drop 3) = some V) (hp : lookK P (ws.getD 2 []) = some x) (ha : V.all (fun q => (look x.vals q.1).isSome) = true) {D X : List KV} (hD : lookK D = over m x.vals) (hX : lookK X = over (lookK D) V) {fl fc : Int}
    (hr : ∀ Q, RdJ (readIn (ws.getD 1 []) x.rows ⟨lookK X, Q, o.map pur⟩) fl fc ⟨lookK X, Q, y.map pur⟩) : LnJ (callV num ws (rsOf m P o)) 0 fl fc (rsOf m P y) := by
  rw [call_x h hv hp, if_pos ha]
  have := hr (P.map purP)
  rw [hX, hD] at this
  rcases this with ⟨h1, h2, h3⟩ | ⟨h1, h2⟩
  · rw [h1]; exact .inl ⟨0, rfl, rfl, h2, h3⟩
  · rw [h1]; exact .inr ⟨rfl, h2⟩
theorem callV_rows {s t : RS} {k : Nat} (h : callV num ws s = .ok (k, t)) : k = 0 := by
  unfold callV at h
  split at h
  · cases h
  · split at h
    · cases h
    · split at h
      · cases h
      · split at h
        · split at h
          · cases h
          · cases h; rfl
        · cases h
end
end R39
end Go.Proofs.YtbfiibgmgopnaaaDoor

namespace Go.Proofs.YtbfiibgmgopnaaaDoor
open Go.GV
set_option linter.unusedVariables false
set_option linter.unusedSimpArgs false
theorem c39h0_ {p : Prop} (h : p := by exact R39.shortV_over (i1_0.done left0) (R39.shortV_over hf16 q6 hx1) (R39.valsG_short _ _ _ hf10 R39.shortV_nil (R39.mem_short q5 3))) : p := h
set_option maxHeartbeats 4000000 in
set_option maxRecDepth 20000 in
theorem call_out (r : Nat) (mB : Nat) (M : List (Bytes × Bytes)) (qB : Nat) (P : R39.PL) (o : List Statement) (oA : Option Addr) (oC : Nat) (oN : Nat) (rows : List Row) (rowsA : Option Addr) (rowsC : Nat) (cl : Bytes) (ws : List Bytes) (wsA : Option Addr) (wsC : Nat) (w : World) (rowsR : RO (Lown [Ent.blk r 77 [Value.map (some mB), Value.map (some qB), vL oA oN oC], Ent.mp vS mB (M.map kvS), Ent.mp vS qB (P.map R39.procE), Ent.row (.slice oA oN oC) 40 4 oN (o.flatMap Statement.enc)]) w rowsA (rows.flatMap Row.enc)) (wsR : RO (Lown [Ent.blk r 77 [Value.map (some mB), Value.map (some qB), vL oA oN oC], Ent.mp vS mB (M.map kvS), Ent.mp vS qB (P.map R39.procE), Ent.row (.slice oA oN oC) 40 4 oN (o.flatMap Statement.enc)]) w wsA (ws.map vS)) (PN : Kp (Lown [Ent.blk r 77 [Value.map (some mB), Value.map (some qB), vL oA oN oC], Ent.mp vS mB (M.map kvS), Ent.mp vS qB (P.map R39.procE), Ent.row (.slice oA oN oC) 40 4 oN (o.flatMap Statement.enc)]) w (R39.PkA P)) (hT : Tab (Lown [Ent.blk r 77 [Value.map (some mB), Value.map (some qB), vL oA oN oC], Ent.mp vS mB (M.map kvS), Ent.mp vS qB (P.map R39.procE), Ent.row (.slice oA oN oC) 40 4 oN (o.flatMap Statement.enc)]) w) (oQ : oN = o.length) (q0 : 0 < rows.length) (q1 : rows.length ≤ rowsC) (q2 : rows.length ≤ 100000) (q3 : 0 < ws.length) (q4 : ws.length ≤ 1000000 ∧ ws.length ≤ wsC) (q5 : ∀ i, (ws.getD i []).length ≤ 20000) (q6 : R39.ShortV M) (q7 : o.length ≤ 400) (PG : R39.PgA P) (hg : Give (Lown [Ent.blk r 77 [Value.map (some mB), Value.map (some qB), vL oA oN oC], Ent.mp vS mB (M.map kvS), Ent.mp vS qB (P.map R39.procE), Ent.row (.slice oA oN oC) 40 4 oN (o.flatMap Statement.enc)]) w [Ent.blk r 77 [Value.map (some mB), Value.map (some qB), vL oA oN oC], Ent.mp vS mB (M.map kvS), Ent.mp vS qB (P.map R39.procE), Ent.row (.slice oA oN oC) 40 4 oN (o.flatMap Statement.enc)]) : Calls Tryd.prog 89 #[pB r 0, vG [vL rowsA rows.length rowsC, vS cl, vB false], vL wsA ws.length wsC] w (GivesW (Lown [Ent.blk r 77 [Value.map (some mB), Value.map (some qB), vL oA oN oC], Ent.mp vS mB (M.map kvS), Ent.mp vS qB (P.map R39.procE), Ent.row (.slice oA oN oC) 40 4 oN (o.flatMap Statement.enc)]) w fun v L wx => ∃ fl : Int, ∃ fc : Int, ∃ y : List Statement, ∃ yA : Option Addr, ∃ yC : Nat, ∃ N : List Statement, v = Value.tuple #[vI 0, vG [vI fl, vI fc]] ∧ L = [Ent.blk r 77 [Value.map (some mB), Value.map (some qB), vL yA y.length yC], Ent.mp vS mB (M.map kvS), Ent.mp vS qB (P.map R39.procE), Ent.row (.slice yA y.length yC) 40 4 y.length (y.flatMap Statement.enc)] ∧ Kp (Lown L ++ List.range w.heap.size) wx (okL Statement.ok N) ∧ (y = o ++ N) ∧ (y.length ≤ 400) ∧ (R39.LnJ (R39.callV (rows.getD 0 default).number ws (R39.rsOf (lookK M) P o)) 0 fl fc (R39.rsOf (lookK M) P (o ++ N)))) := by
 subst oQ
 have hw1 := q5 1
 have hw2 := q5 2
 refine calls_JW (Lown [Ent.blk r 77 [Value.map (some mB), Value.map (some qB), vL oA o.length oC], Ent.mp vS mB (M.map kvS), Ent.mp vS qB (P.map R39.procE), Ent.row (.slice oA o.length oC) 40 4 o.length (o.flatMap Statement.enc)]) 114 Tryd.func89 rfl Tryd.ntmps89 [(0, _), (1, _), (2, _)] rfl rfl hg ?_
 refine q_ (g_ (o_ (bxG fun b1 => ?_)))
 refine s_ av_ (o_ (al_ Ty.ze79 fun b2 => ?_))
 refine z_ (n_ (q_ (q_ (g_ (s_ (fA 2 Ty.fi82_2) (r_ (ld_ 1 Ty.sc4) (z_ (n_ (iff_ (sk_ (n_ (q_ (q_ (g_ (s_ mv_ (s_ (lnS Tryd.underlying24) (s_ (x_lss_i rfl rfl) (s_ mv_ ?_))))))))))))))))))
 refine or_ 5 (!(R39.symV (ws.getD 1 []))) (fun g3 => ?_) ?_
 ·have g3r := g3
  have g3r := of_decide_eq_false g3r
  refine sg_ g3 mv_ (rg_ g3 (ixM (k := 1) (cells_ro wsR) Tryd.underlying24 Ty.sz9) (rg_ g3 (ldM vS [] (cells_ro wsR) Ty.sc9) (c0g g3 (cl_ Ty.ca30) (fun w hS => f30_ok _ w (hT.on hS (fun _ h => by cases h)) hy_) (sg_ g3 (x_not rfl) ?_))))
  exact cr_
 refine s_ mv_ ?_
 refine or_ 5 (!(R39.symV (ws.getD 2 []))) (fun g4 => ?_) ?_
 ·have g4r := g4
  have ⟨g4r, h5⟩ := bor_false g4r
  have g4r := of_decide_eq_false g4r
  have h5 : (R39.symV (ws.getD 1 [])) = true := bnot_false h5
  refine sg_ g4 mv_ (rg_ g4 (ixM (k := 2) (cells_ro wsR) Tryd.underlying24 Ty.sz9) (rg_ g4 (ldM vS [] (cells_ro wsR) Ty.sc9) (c0g g4 (cl_ Ty.ca30) (fun w hS => f30_ok _ w (hT.on hS (fun _ h => by cases h)) hy_) (sg_ g4 (x_not rfl) ?_))))
  exact cr_
 refine z_ (n_ ?_)
 refine if_ (fun h6 => ?_) (fun h6 => ?_)
 ·have h6w := h6
  simp only [Bool.and_eq_true, Bool.or_eq_true, Bool.and_eq_false_iff, Bool.or_eq_false_iff, Bool.not_eq_true', Bool.not_eq_false', decide_eq_true_eq, decide_eq_false_iff_not] at h6
  refine q_ (g_ (r_ (ldN 1 [vL rowsA rows.length rowsC, vS cl, vB false] Ty.ag82 Ty.sz82) (c0 (cl_ Ty.ca91) (fun w hS => f91_ok rows _ _ cl _ 3 w (rno rowsR hS) hy_) (s_ av_ (o_ (stG 0 Ty.sz79 ?_))))))
  refine z_ (n_ (rt_ (nr_ ?_)))
  refine JX_retsD [_, _] (Value.tuple #[_, _]) Tryd.results89 (fun w h => ⟨rfl, ⟨_, rfl, load_blkN 0 [vI ((rows.getD 0 default).number), vI 3] h rfl Ty.ag79 Ty.sz79 rfl⟩, trivial⟩) rfl _ (fun _ h => h.keep [false, false, true, true, true, true] rfl) (fun _ _ h => h) (fun wx hw => ⟨(rows.getD 0 default).number, 3, o, oA, oC, ([] : List Statement), ?_, ?_, R39.okN_nil, ?_, ?_, ?_⟩)
  ·rfl
  ·rfl
  ·first | exact (List.append_nil o).symm | assumption
  ·first | assumption | omega
  ·first
    | (rw [List.append_nil]; first | exact .err (R39.call_e3 (by assumption)) (by decide) | exact .err (R39.call_e3v (by assumption) hv9) (by decide) | exact .err (R39.call_e4 (by assumption) no_such_condition hxn) (by decide) | exact .err (R39.call_e4v (by assumption) no_such_condition hxp (R39.CallJ.bad (i1_0.1 _ leftm) (by assumption))) (by decide))
    | exact R39.call_read (by assumption) no_such_condition hxp (i1_1.done left0) no_such_condition (i1_0.done left0) no_such_condition
 ·have h6w := h6
  have ⟨h6, h7⟩ := bor_false h6
  have ⟨h6, h8⟩ := bor_false h6
  have h6 := of_decide_eq_false h6
  have h8 : (R39.symV (ws.getD 1 [])) = true := bnot_false h8
  have h7 : (R39.symV (ws.getD 2 [])) = true := bnot_false h7
  refine sk_ (n_ (q_ ?_))
  rcases Bool.eq_false_or_eq_true (R39.valsV (ws.drop 3)).isSome with hv9 | hv9
  ·refine g_ (s_ mv_ (s_ (x_subrow (lo := 3) (hi := ws.length) rfl Tryd.underlying24 Ty.sz9 (.inl rfl) (.inr ⟨rfl, rfl⟩) lt_ lt_) ?_))
   have hro9 := RO.subM wsR wsC 3 (ws.length - 3) lt_
   rw [show ws.length - 3 = (ws.drop 3).length from List.length_drop.symm, List.take_length] at hro9
   refine JO_weaken (E' := [(0, pB r 0), (1, vG [vL rowsA rows.length rowsC, vS cl, vB false]), (2, vL wsA ws.length wsC), (4, pB b1 0), (6, vI 0), (7, pB b2 0), (18, pB b1 2), (19, vB false), (22, vL wsA ws.length wsC), (23, vI ((ws.length : Nat) : Int)), (24, vB (decide (((ws.length : Nat) : Int) < 3))), (25, vB (decide (((ws.length : Nat) : Int) < 3))), (31, vB ((decide (((ws.length : Nat) : Int) < 3)) || (!(R39.symV (ws.getD 1 []))))), (32, vB ((decide (((ws.length : Nat) : Int) < 3)) || (!(R39.symV (ws.getD 1 []))))), (38, vB (((decide (((ws.length : Nat) : Int) < 3)) || (!(R39.symV (ws.getD 1 [])))) || (!(R39.symV (ws.getD 2 []))))), (42, vL wsA ws.length wsC), (43, vL (subA wsA wsC 3 1) ((ws.drop 3).length) (wsC - 3))]) (L' := [Ent.blk b2 79 [vI 0, vI 0], Ent.blk b1 82 [vL rowsA rows.length rowsC, vS cl, vB false], Ent.blk r 77 [Value.map (some mB), Value.map (some qB), vL oA o.length oC], Ent.mp vS mB (M.map kvS), Ent.mp vS qB (P.map R39.procE), Ent.row (.slice oA o.length oC) 40 4 o.length (o.flatMap Statement.enc)]) ⟨rfl, rfl, rfl, rfl, rfl, rfl, rfl, rfl, rfl, rfl, rfl, rfl, rfl, rfl, rfl, rfl, (congrArg (fun n : Nat => some (Value.slice (subA wsA wsC 3 1) n (wsC - 3))) (by exact List.length_drop.symm)), trivial⟩ (fun _ h => h) ?_
   refine JO_callB [] [] [Ent.blk b2 79 [vI 0, vI 0], Ent.blk b1 82 [vL rowsA rows.length rowsC, vS cl, vB false], Ent.blk r 77 [Value.map (some mB), Value.map (some qB), vL oA o.length oC], Ent.mp vS mB (M.map kvS), Ent.mp vS qB (P.map R39.procE), Ent.row (.slice oA o.length oC) 40 4 o.length (o.flatMap Statement.enc)] rfl trivial (fun _ => x_call Ty.ca98 rfl) (fun _ h => h) (fun _ h => by cases h) (fun w hS => vals_ok _ _ _ w (hro9.on hS (fun _ h => by cases h)) (hT.on hS (fun _ h => by cases h)) hy_ hy_ hy_) ?_
   rintro wc _ _ wbhB11 ⟨rV, rVB, rfl, rfl, rVR, hf10⟩ hc0 hB11
   have rowsR := rowsR.again hB11
   have wsR := wsR.again hB11
   have hro9 := hro9.again hB11
   have hT := hT.again hB11
   have PN := PN.again hB11
   have rVR0 := rVR.mono (lown_rangeAF (w00 := w) hc0 hc0.fr.size)
   have rVR := rVR.mono (lown_rangeA hc0)
   refine s_ mv_ (s_ (ex_ 0) (s_ (ex_ 1) (s_ av_ (s_ av_ (z_ (xk_ [0, 2, 4, 6, 7, 8, 9] ?_))))))
   refine n_ (q_ (q_ (g_ (s_ mv_ (jr_ (vB false) (z_ (n_ (iff_ (sk_ (n_ (q_ ?_)))))))))))
   rcases Bool.eq_false_or_eq_true (lookK P (ws.getD 2 [])).isSome with hp9 | hp9
   ·obtain ⟨xp, hxp, qx, hxm⟩ := R39.find_some hp9
    have hPx := R39.pk_at PN hxm
    have xpR := Kp.ro (hPx.imp fun _ h => h.2)
    have xpV := hPx.imp fun _ h => h.1
    have ⟨hx1, hx2, hx3, hx4, hx5⟩ := PG _ hxm
    refine drB [12] 14 Ty.mixed ?_
    refine jp_ 0 rfl mv_ (jp_ 1 rfl (x_nilCheck rfl) (jp_ 2 rfl (fA 1 Ty.fi77_1) (jq_ 3 rfl (ld_ 2 Ty.sc75) (jp_ 4 rfl mv_ (jq_ 5 rfl (ixM (k := 2) (cells_ro wsR) Tryd.underlying24 Ty.sz9) (jq_ 6 rfl (ldM vS [] (cells_ro wsR) Ty.sc9) ?_))))))
    refine jt_ 7 (Value.tuple #[vG [Value.map (some xp.valsB), vL xp.rowsA xp.rows.length xp.rowsC], vB true]) rfl (x_lookup_okv 4 (f := vS) (k := (ws.getD 2 [])) rfl rfl rfl Tryd.underlying75 (mapK_s Tryd.underlying9) Ty.ze137 (R39.lk_p hxp) rfl rfl) ?_
    refine jp_ 8 rfl mv_ (jp_ 9 rfl (ex_ 0) (jp_ 10 rfl (ex_ 1) (j1_ 11 (jio_ rfl (al_ Ty.ze137 fun b13 => ?_)) gm_)))
    refine j1_ 12 (jio_ rfl (stG 0 Ty.sz137 ?_)) (fun _ h => ⟨h.keep [false, true, true, true, true, true, true] rfl, fun _ => h.keep [false, true, true, true, true, true, true] rfl⟩)
    refine jp_ 13 rfl av_ ?_
    refine JA_done (by kernel_rfl) (gl_ rfl (fun _ h => h.keep [false, true, true, true, true, true, true] rfl)) ?_
    refine n_ (q_ (q_ (g_ (s_ mv_ (jr_ (vB false) (z_ (xk_ [0, 2, 4, 6, 7, 8, 10, 63] ?_)))))))
    refine n_ (iff_ (sk_ (n_ (q_ (g_ (s_ mv_ (s_ (x_nilCheck rfl) (s_ (fA 0 Ty.fi77_0) (r_ (ld_ 3 Ty.sc22) (s_ av_ (z_ (n_ (q_ (g_ (s_ mv_ ?_)))))))))))))))
    refine c1 (cl_ Ty.ca99) (fun w hS => f99_ok M mB w (Kp.of_ent hS 4 rfl)) ?_
    rintro _ _ ⟨e14, rfl, rfl⟩
    refine s_ av_ (z_ (n_ (q_ (g_ (s_ mv_ (s_ (fA 0 Ty.fi137_0) (r_ (ld_ 1 Ty.sc22) ?_)))))))
    refine JO_call [e14] [Ent.mp vS e14 (M.map kvS)] [Ent.blk b13 137 [Value.map (some xp.valsB), vL xp.rowsA xp.rows.length xp.rowsC], Ent.blk b2 79 [vI 0, vI 0], Ent.blk b1 82 [vL rowsA rows.length rowsC, vS cl, vB false], Ent.blk r 77 [Value.map (some mB), Value.map (some qB), vL oA o.length oC], Ent.mp vS mB (M.map kvS), Ent.mp vS qB (P.map R39.procE), Ent.row (.slice oA o.length oC) 40 4 o.length (o.flatMap Statement.enc)] rfl trivial (fun _ => x_call Ty.ca100 rfl) (fun _ h => h) (own_mem rfl) (fun w hS => f100_ok M e14 xp.vals xp.valsB w (xpV.on hS (own_mem rfl)) hy_ (hS.give (own_in rfl))) ?_
    rintro _ _ ⟨e15, rfl, rfl, hf16⟩
    refine z_ (n_ (q_ (q_ (g_ (s_ mv_ (o_ (O_rangeR rVR rfl Tryd.underlying22 fun es17 ck18 it19 hborn20 hmx21 => ?_)))))))
    refine z_ (xk_ [0, 2, 4, 6, 7, 10, 11, 12, 77] ?_)
    refine n_ (k_ ?_)
    refine J_loop (X := (List (Bytes × Bytes)) × (Option (Bytes × Value)) × (List (Bytes × Bytes))) (fun (⟨left, leftC, X⟩ : (List (Bytes × Bytes)) × (Option (Bytes × Value)) × (List (Bytes × Bytes))) => (R39.CopyJ e15 rV left X) ∧ (R39.CallJ xp.vals rV left)) (fun (⟨left, leftC, X⟩ : (List (Bytes × Bytes)) × (Option (Bytes × Value)) × (List (Bytes × Bytes))) => [(0, pB r 0), (2, vL wsA ws.length wsC), (4, pB b1 0), (7, pB b2 0), (10, pB b13 0), (11, Value.map (some mB)), (12, Value.map (some e14)), (77, pB it19 0)]) (fun (⟨left, leftC, X⟩ : (List (Bytes × Bytes)) × (Option (Bytes × Value)) × (List (Bytes × Bytes))) => [Ent.rng vS it19 rVB es17 ck18 (left.map kvS) leftC, Ent.mp vS e14 (X.map kvS), Ent.blk b13 137 [Value.map (some xp.valsB), vL xp.rowsA xp.rows.length xp.rowsC], Ent.blk b2 79 [vI 0, vI 0], Ent.blk b1 82 [vL rowsA rows.length rowsC, vS cl, vB false], Ent.blk r 77 [Value.map (some mB), Value.map (some qB), vL oA o.length oC], Ent.mp vS mB (M.map kvS), Ent.mp vS qB (P.map R39.procE), Ent.row (.slice oA o.length oC) 40 4 o.length (o.flatMap Statement.enc)]) (fun (⟨left, leftC, X⟩ : (List (Bytes × Bytes)) × (Option (Bytes × Value)) × (List (Bytes × Bytes))) => left.length) ((rV, (none : Option (Bytes × Value)), e15) : (List (Bytes × Bytes)) × (Option (Bytes × Value)) × (List (Bytes × Bytes))) ?_ ⟨rfl, rfl, rfl, rfl, rfl, rfl, rfl, rfl, trivial⟩ (fun _ h => h) ?_
    ·try dsimp only
     refine ⟨?_, ?_⟩
     ·exact R39.CopyJ.start
     ·exact R39.CallJ.start
    rintro ⟨left, leftC, X⟩ hI1
    obtain ⟨i1_0, i1_1⟩ := hI1
    try dsimp only at i1_0
    try dsimp only at i1_1
    try dsimp only
    refine q_ (g_ ?_)
    refine JO_op rfl trivial (O_nextR 0 (f := vS) kvS rfl rfl hmx21 hborn20 (fun left0 => ?_) (fun lefta leftn lefth => ?_))
    ·refine s_ (ex_ 0) (z_ (n_ (q_ (iff_ (J_exit (ne_ (re_ (kh_ (n_ (q_ (g_ (s_ mv_ (s_ mv_ (s_ (x_nilCheck rfl) (s_ (fA 0 Ty.fi77_0) (o_ (st1 5 Ty.sz22 ?_)))))))))))))))))
     refine z_ (n_ (q_ ?_))
     refine drU [] [7, 9] 10 Ty.mixed ?_
     refine jp_ 0 rfl mv_ (jp_ 1 rfl (fA 1 Ty.fi137_1) ?_)
     refine JA_earlyT 2 (vL xp.rowsA xp.rows.length xp.rowsC) rfl (by kernel_rfl) (by kernel_rfl) (by kernel_rfl) rfl (by kernel_rfl) (fun _ _ _ h => h) rfl trivial (x_load 2 rfl rfl Ty.sc68 rfl) ?_
     refine jp_ 3 rfl mv_ (jq_ 4 rfl (ixM (k := 1) (cells_ro wsR) Tryd.underlying24 Ty.sz9) (jq_ 5 rfl (ldM vS [] (cells_ro wsR) Ty.sc9) ?_))
     refine jt_ 6 (vG [vL xp.rowsA xp.rows.length xp.rowsC, vS (ws.getD 1 []), vB true]) rfl (fun _ _ => x_build (by kernel_rfl)) ?_
     refine JA_ready (rs := [7, 8]) (by kernel_rfl) (by decide) (fun _ h => ⟨h.keep [false, false, false, false, false, false, false, false, false] rfl, fun _ => h⟩) (List.forall_mem_cons.2 ⟨?_, (List.forall_mem_cons.2 ⟨?_, all_nil⟩)⟩)
     ·refine JI_callB (Lown [Ent.blk r 77 [Value.map (some e14), Value.map (some qB), vL oA o.length oC], Ent.mp vS e14 (X.map kvS), Ent.row (.slice oA o.length oC) 40 4 o.length (o.flatMap Statement.enc)]) [Ent.blk r 77 [Value.map (some e14), Value.map (some qB), vL oA o.length oC], Ent.mp vS e14 (X.map kvS), Ent.row (.slice oA o.length oC) 40 4 o.length (o.flatMap Statement.enc)] [Ent.rng vS it19 rVB es17 ck18 (left.map kvS) leftC, Ent.blk b13 137 [Value.map (some xp.valsB), vL xp.rowsA xp.rows.length xp.rowsC], Ent.blk b2 79 [vI 0, vI 0], Ent.blk b1 82 [vL rowsA rows.length rowsC, vS cl, vB false], Ent.mp vS mB (M.map kvS), Ent.mp vS qB (P.map R39.procE)] rfl rfl trivial (fun _ => x_call Ty.ca39 rfl) (fun _ h => (((((((((h.front 7 _ rfl).front 7 _ rfl).front 6 _ rfl).front 6 _ rfl).front 6 _ rfl).front 5 _ rfl).front 8 _ rfl).front 7 _ rfl).front 8 _ rfl).keep [true, true, true, true, true, true, true, true, true] rfl) lown_mem (fun w hS => read_in r e14 X (Value.map (some qB)) o oA oC o.length xp.rows xp.rowsA xp.rowsC (ws.getD 1 []) w (xpR.on hS lown_mem) (hT.on hS lown_mem) hy_ hy_ hy_ hy_ c39h0_ hy_ (hS.give lown_in)) ?_
      rintro wc _ _ wbhB31 ⟨fl22, fc23, y24, yA25, yC26, N27, rfl, rfl, kf32, hf28, hf29, hf30⟩ hc0 hB31
      have rowsR := rowsR.again hB31
      have wsR := wsR.again hB31
      have hro9 := hro9.again hB31
      have xpR := xpR.again hB31
      have hT := hT.again hB31
      have PN := PN.again hB31
      have hmx21 := hmx21.again hB31
      have rVR0 := rVR0.againF hB31
      have rVR := rVR.again hB31
      have xpV := xpV.again hB31
      have kf320 := kf32.mono (lown_rangeAF (w00 := w) hc0 (hB11.back _ _ hc0).fr.size)
      have kf32 := kf32.mono (lown_rangeA hc0)
      refine j1_ 8 (jio_ rfl (al_ Ty.ze79 fun b34 => ?_)) (gl_ rfl (fun _ h => h.keep [false, false, false, false, false, false, false, false, false] rfl))
      refine j1_ 9 (jio_ rfl (stG 0 Ty.sz79 ?_)) (gl_ rfl (fun _ h => h.keep [false, false, false, false, false, false, false, false, false, false] rfl))
      refine JA_done (by kernel_rfl) (gl_ rfl (fun _ h => h.keep [false, false, false, false, false, false, false, false, false, false] rfl)) ?_
      refine n_ (q_ (g_ (s_ mv_ (s_ mv_ (s_ (x_nilCheck rfl) (s_ (fA 0 Ty.fi77_0) (o_ (st1 1 Ty.sz22 ?_))))))))
      refine z_ (xk_ [7, 17] ?_)
      refine n_ (q_ ?_)
      refine drU [Ent.blk b34 79 [vI fl22, vI fc23], Ent.blk r 77 [Value.map (some mB), Value.map (some qB), vL yA25 y24.length yC26], Ent.mp vS e14 (X.map kvS), Ent.row (.slice yA25 y24.length yC26) 40 4 y24.length (y24.flatMap Statement.enc), Ent.rng vS it19 rVB es17 ck18 (left.map kvS) leftC, Ent.blk b13 137 [Value.map (some xp.valsB), vL xp.rowsA xp.rows.length xp.rowsC], Ent.blk b1 82 [vL rowsA rows.length rowsC, vS cl, vB false], Ent.mp vS mB (M.map kvS), Ent.mp vS qB (P.map R39.procE)] [2] 3 Ty.mixed ?_
      refine jq_ 0 rfl (ldN 0 [vI fl22, vI fc23] Ty.ag79 Ty.sz79) (jp_ 1 rfl av_ (j1_ 2 (jio_ rfl (stG 6 Ty.sz79 ?_)) (fun _ h => ⟨h.keep [true, true, true, true, true, true, false, true, true, true] rfl, fun _ => h⟩)))
      refine JA_done (by kernel_rfl) (gl_ rfl (fun _ h => h.keep [true, true, true, true, true, true, false, true, true, true] rfl)) ?_
      refine n_ (rt_ ?_)
      refine JX_retsD [_, _] (Value.tuple #[_, _]) Tryd.results89 (fun w h => ⟨rfl, ⟨_, rfl, load_blkN 6 [vI fl22, vI fc23] h rfl Ty.ag79 Ty.sz79 rfl⟩, trivial⟩) rfl [Ent.blk r 77 [Value.map (some mB), Value.map (some qB), vL yA25 y24.length yC26], Ent.mp vS mB (M.map kvS), Ent.mp vS qB (P.map R39.procE), Ent.row (.slice yA25 y24.length yC26) 40 4 y24.length (y24.flatMap Statement.enc)] (fun _ h => ((((h.front 3 _ rfl).front 9 _ rfl).front 9 _ rfl).front 4 _ rfl).keep [true, true, true, true, false, false, false, false, false, false] rfl) (fun _ _ h => (hB11.back _ _ (hB31.back _ _ h))) (fun wx hw => ⟨fl22, fc23, y24, yA25, yC26, N27, ?_, ?_, (kf320.againF (((((hw.front 3 _ rfl).front 9 _ rfl).front 9 _ rfl).front 4 _ rfl).keep [true, true, true, true, false, false, false, false, false, false] rfl)), ?_, ?_, ?_⟩)
      ·rfl
      ·rfl
      ·first | exact (List.append_nil o).symm | assumption
      ·first | assumption | omega
      ·first
        | (rw [List.append_nil]; first | exact .err (R39.call_e3 (by assumption)) (by decide) | exact .err (R39.call_e3v (by assumption) hv9) (by decide) | exact .err (R39.call_e4 (by assumption) hf10 hxn) (by decide) | exact .err (R39.call_e4v (by assumption) hf10 hxp (R39.CallJ.bad (i1_0.1 _ leftm) (by assumption))) (by decide))
        | exact R39.call_read (by assumption) hf10 hxp (i1_1.done left0) hf16 (i1_0.done left0) hf30
     ·refine jio_ rfl (al_ Ty.ze79 fun b35 => ?_)
      refine j1_ 7 ?_ (fun _ h => ⟨h.keep [false, false, false, false, false, false, false, false, false, false] rfl, fun _ => h.keep [false, true, true, true, true, true, true, true, true, true] rfl⟩)
      refine JI_callB (Lown [Ent.blk r 77 [Value.map (some e14), Value.map (some qB), vL oA o.length oC], Ent.mp vS e14 (X.map kvS), Ent.row (.slice oA o.length oC) 40 4 o.length (o.flatMap Statement.enc)]) [Ent.blk r 77 [Value.map (some e14), Value.map (some qB), vL oA o.length oC], Ent.mp vS e14 (X.map kvS), Ent.row (.slice oA o.length oC) 40 4 o.length (o.flatMap Statement.enc)] [Ent.blk b35 79 [vI 0, vI 0], Ent.rng vS it19 rVB es17 ck18 (left.map kvS) leftC, Ent.blk b13 137 [Value.map (some xp.valsB), vL xp.rowsA xp.rows.length xp.rowsC], Ent.blk b2 79 [vI 0, vI 0], Ent.blk b1 82 [vL rowsA rows.length rowsC, vS cl, vB false], Ent.mp vS mB (M.map kvS), Ent.mp vS qB (P.map R39.procE)] rfl rfl trivial (fun _ => x_call Ty.ca39 rfl) (fun _ h => ((((((((((h.front 8 _ rfl).front 8 _ rfl).front 7 _ rfl).front 7 _ rfl).front 7 _ rfl).front 6 _ rfl).front 6 _ rfl).front 9 _ rfl).front 8 _ rfl).front 9 _ rfl).keep [true, true, true, true, true, true, true, true, true, true] rfl) lown_mem (fun w hS => read_in r e14 X (Value.map (some qB)) o oA oC o.length xp.rows xp.rowsA xp.rowsC (ws.getD 1 []) w (xpR.on hS lown_mem) (hT.on hS lown_mem) hy_ hy_ hy_ hy_ c39h0_ hy_ (hS.give lown_in)) ?_
      rintro wc _ _ wbhB45 ⟨fl36, fc37, y38, yA39, yC40, N41, rfl, rfl, kf46, hf42, hf43, hf44⟩ hc0 hB45
      have rowsR := rowsR.again hB45
      have wsR := wsR.again hB45
      have hro9 := hro9.again hB45
      have xpR := xpR.again hB45
      have hT := hT.again hB45
      have PN := PN.again hB45
      have hmx21 := hmx21.again hB45
      have rVR0 := rVR0.againF hB45
      have rVR := rVR.again hB45
      have xpV := xpV.again hB45
      have kf460 := kf46.mono (lown_rangeAF (w00 := w) hc0 (hB11.back _ _ hc0).fr.size)
      have kf46 := kf46.mono (lown_rangeA hc0)
      refine j1_ 9 (jio_ rfl (stG 3 Ty.sz79 ?_)) (gl_ rfl (fun _ h => h.keep [false, false, false, false, false, false, false, false, false, false] rfl))
      refine JA_done (by kernel_rfl) (gl_ rfl (fun _ h => h.keep [false, false, false, false, false, false, false, false, false, false] rfl)) ?_
      refine n_ (q_ (g_ (s_ mv_ (s_ mv_ (s_ (x_nilCheck rfl) (s_ (fA 0 Ty.fi77_0) (o_ (st1 0 Ty.sz22 ?_))))))))
      refine z_ (xk_ [7, 17] ?_)
      refine n_ (q_ ?_)
      refine drU [Ent.blk r 77 [Value.map (some mB), Value.map (some qB), vL yA39 y38.length yC40], Ent.mp vS e14 (X.map kvS), Ent.row (.slice yA39 y38.length yC40) 40 4 y38.length (y38.flatMap Statement.enc), Ent.blk b35 79 [vI fl36, vI fc37], Ent.rng vS it19 rVB es17 ck18 (left.map kvS) leftC, Ent.blk b13 137 [Value.map (some xp.valsB), vL xp.rowsA xp.rows.length xp.rowsC], Ent.blk b1 82 [vL rowsA rows.length rowsC, vS cl, vB false], Ent.mp vS mB (M.map kvS), Ent.mp vS qB (P.map R39.procE)] [2] 3 Ty.mixed ?_
      refine jq_ 0 rfl (ldN 3 [vI fl36, vI fc37] Ty.ag79 Ty.sz79) (jp_ 1 rfl av_ (j1_ 2 (jio_ rfl (stG 6 Ty.sz79 ?_)) (fun _ h => ⟨h.keep [true, true, true, true, true, true, false, true, true, true] rfl, fun _ => h⟩)))
      refine JA_done (by kernel_rfl) (gl_ rfl (fun _ h => h.keep [true, true, true, true, true, true, false, true, true, true] rfl)) ?_
      refine n_ (rt_ ?_)
      refine JX_retsD [_, _] (Value.tuple #[_, _]) Tryd.results89 (fun w h => ⟨rfl, ⟨_, rfl, load_blkN 6 [vI fl36, vI fc37] h rfl Ty.ag79 Ty.sz79 rfl⟩, trivial⟩) rfl [Ent.blk r 77 [Value.map (some mB), Value.map (some qB), vL yA39 y38.length yC40], Ent.mp vS mB (M.map kvS), Ent.mp vS qB (P.map R39.procE), Ent.row (.slice yA39 y38.length yC40) 40 4 y38.length (y38.flatMap Statement.enc)] (fun _ h => ((((h.front 2 _ rfl).front 9 _ rfl).front 9 _ rfl).front 3 _ rfl).keep [true, true, true, true, false, false, false, false, false, false] rfl) (fun _ _ h => (hB11.back _ _ (hB45.back _ _ h))) (fun wx hw => ⟨fl36, fc37, y38, yA39, yC40, N41, ?_, ?_, (kf460.againF (((((hw.front 2 _ rfl).front 9 _ rfl).front 9 _ rfl).front 3 _ rfl).keep [true, true, true, true, false, false, false, false, false, false] rfl)), ?_, ?_, ?_⟩)
      ·rfl
      ·rfl
      ·first | exact (List.append_nil o).symm | assumption
      ·first | assumption | omega
      ·first
        | (rw [List.append_nil]; first | exact .err (R39.call_e3 (by assumption)) (by decide) | exact .err (R39.call_e3v (by assumption) hv9) (by decide) | exact .err (R39.call_e4 (by assumption) hf10 hxn) (by decide) | exact .err (R39.call_e4v (by assumption) hf10 hxp (R39.CallJ.bad (i1_0.1 _ leftm) (by assumption))) (by decide))
        | exact R39.call_read (by assumption) hf10 hxp (i1_1.done left0) hf16 (i1_0.done left0) hf44
    ·have leftl := (List.getElem?_eq_some_iff.1 lefth).1
     have lefte := List.length_eraseIdx_of_lt leftl
     have leftm := List.mem_of_getElem? lefth
     refine s_ (ex_ 0) (z_ (n_ (q_ (ift (sk_ (n_ (k_ (q_ (g_ (r_ (O_entryR 0 (f := vS) (p := kvS lefta) rfl rfl hmx21 hborn20) (s_ (ex_ 0) (s_ (ex_ 1) (s_ av_ (s_ av_ (z_ (n_ (q_ (q_ (g_ (s_ (fA 0 Ty.fi137_0) ?_))))))))))))))))))))
     refine r_ (ld_ 2 Ty.sc22) (s_ mv_ ?_)
     refine JO_read (Value.tuple #[vS ((lookK xp.vals lefta.1).getD []), vB ((lookK xp.vals lefta.1).isSome)]) rfl trivial (x_lookup_okR (f := vS) (k := lefta.1) (kp_mp xpV) rfl rfl Tryd.underlying22 (mapK_s Tryd.underlying9) Ty.ze9 (lk_kv xp.vals lefta.1) (getD_kv _) (isSome_mp _ _)) ?_
     refine s_ mv_ (s_ (ex_ 0) (s_ (ex_ 1) (s_ av_ (s_ av_ (z_ (xk_ [0, 2, 4, 7, 10, 11, 12, 77, 13, 14, 16] ?_))))))
     refine n_ (q_ (g_ (s_ mv_ (s_ (x_not rfl) (z_ (n_ ?_))))))
     refine if_ (fun h47 => ?_) (fun h47 => ?_)
     ·have h47w := h47
      have h47 : ((lookK xp.vals lefta.1).isSome) = false := bnot_true h47
      refine q_ (g_ (r_ (ldN 4 [vL rowsA rows.length rowsC, vS cl, vB false] Ty.ag82 Ty.sz82) (c0 (cl_ Ty.ca91) (fun w hS => f91_ok rows _ _ cl _ 4 w (rno rowsR hS) hy_) (s_ av_ (o_ (stG 3 Ty.sz79 ?_))))))
      refine z_ (n_ (rt_ (nr_ (kq_ (rr_ (kq_ (nr_ ?_)))))))
      refine JX_retsD [_, _] (Value.tuple #[_, _]) Tryd.results89 (fun w h => ⟨rfl, ⟨_, rfl, load_blkN 3 [vI ((rows.getD 0 default).number), vI 4] h rfl Ty.ag79 Ty.sz79 rfl⟩, trivial⟩) rfl _ (fun _ h => h.keep [false, false, false, false, false, true, true, true, true] rfl) (fun _ _ h => (hB11.back _ _ h)) (fun wx hw => ⟨(rows.getD 0 default).number, 4, o, oA, oC, ([] : List Statement), ?_, ?_, R39.okN_nil, ?_, ?_, ?_⟩)
      ·rfl
      ·rfl
      ·first | exact (List.append_nil o).symm | assumption
      ·first | assumption | omega
      ·first
        | (rw [List.append_nil]; first | exact .err (R39.call_e3 (by assumption)) (by decide) | exact .err (R39.call_e3v (by assumption) hv9) (by decide) | exact .err (R39.call_e4 (by assumption) hf10 hxn) (by decide) | exact .err (R39.call_e4v (by assumption) hf10 hxp (R39.CallJ.bad (i1_0.1 _ leftm) (by assumption))) (by decide))
        | exact R39.call_read (by assumption) hf10 hxp (i1_1.done left0) hf16 (i1_0.done left0) no_such_condition
     ·have h47w := h47
      have h47 : ((lookK xp.vals lefta.1).isSome) = true := bnot_false h47
      refine sk_ (n_ (g_ (s_ mv_ (s_ mv_ (s_ mv_ (o_ (O_mapUpdate 1 (f := vS) (k := lefta.1) ((putK X lefta.1 lefta.2).map kvS) [Ent.rng vS it19 rVB es17 ck18 ((left.eraseIdx leftn).map kvS) (some (kvS lefta)), Ent.mp vS e14 ((putK X lefta.1 lefta.2).map kvS), Ent.blk b13 137 [Value.map (some xp.valsB), vL xp.rowsA xp.rows.length xp.rowsC], Ent.blk b2 79 [vI 0, vI 0], Ent.blk b1 82 [vL rowsA rows.length rowsC, vS cl, vB false], Ent.blk r 77 [Value.map (some mB), Value.map (some qB), vL oA o.length oC], Ent.mp vS mB (M.map kvS), Ent.mp vS qB (P.map R39.procE), Ent.row (.slice oA o.length oC) 40 4 o.length (o.flatMap Statement.enc)] rfl rfl rfl rfl Tryd.underlying22 (mapK_s Tryd.underlying9) (upd_kv X lefta.1 lefta.2) rfl ?_)))))))
      refine z_ (kx_ ?_)
      refine JX_round (((left.eraseIdx leftn), (some (kvS lefta)), (putK X lefta.1 lefta.2)) : (List (Bytes × Bytes)) × (Option (Bytes × Value)) × (List (Bytes × Bytes))) ?_ ?_ ⟨rfl, rfl, rfl, rfl, rfl, rfl, rfl, rfl, trivial⟩ (fun _ h => h)
      ·try dsimp only
       refine ⟨?_, ?_⟩
       ·exact i1_0.step (R39.valsG_nd _ _ _ hf10 R39.keys_nil) lefth
       ·exact i1_1.step lefth (by assumption)
      ·try dsimp only
       omega
   ·have hxn := R39.find_none hp9
    refine drB [12] 14 Ty.mixed ?_
    refine jp_ 0 rfl mv_ (jp_ 1 rfl (x_nilCheck rfl) (jp_ 2 rfl (fA 1 Ty.fi77_1) (jq_ 3 rfl (ld_ 2 Ty.sc75) (jp_ 4 rfl mv_ (jq_ 5 rfl (ixM (k := 2) (cells_ro wsR) Tryd.underlying24 Ty.sz9) (jq_ 6 rfl (ldM vS [] (cells_ro wsR) Ty.sc9) ?_))))))
    refine jt_ 7 (Value.tuple #[vG [Value.map none, vL none 0 0], vB false]) rfl (x_lookup_okv 4 (f := vS) (k := (ws.getD 2 [])) rfl rfl rfl Tryd.underlying75 (mapK_s Tryd.underlying9) Ty.ze137 (R39.lk_n hxn) rfl rfl) ?_
    refine jp_ 8 rfl mv_ (jp_ 9 rfl (ex_ 0) (jp_ 10 rfl (ex_ 1) (j1_ 11 (jio_ rfl (al_ Ty.ze137 fun b49 => ?_)) gm_)))
    refine j1_ 12 (jio_ rfl (stG 0 Ty.sz137 ?_)) (fun _ h => ⟨h.keep [false, true, true, true, true, true, true] rfl, fun _ => h.keep [false, true, true, true, true, true, true] rfl⟩)
    refine jp_ 13 rfl av_ ?_
    refine JA_done (by kernel_rfl) (gl_ rfl (fun _ h => h.keep [false, true, true, true, true, true, true] rfl)) ?_
    refine n_ (q_ (q_ (g_ (s_ mv_ (jr_ (vB true) (z_ (xk_ [0, 2, 4, 6, 7, 8, 10, 63] ?_)))))))
    refine n_ (ift (q_ (g_ (r_ (ldN 2 [vL rowsA rows.length rowsC, vS cl, vB false] Ty.ag82 Ty.sz82) (c0 (cl_ Ty.ca91) (fun w hS => f91_ok rows _ _ cl _ 4 w (rno rowsR hS) hy_) (s_ av_ (o_ (stG 1 Ty.sz79 ?_))))))))
    refine z_ (n_ (rt_ (nr_ ?_)))
    refine JX_retsD [_, _] (Value.tuple #[_, _]) Tryd.results89 (fun w h => ⟨rfl, ⟨_, rfl, load_blkN 1 [vI ((rows.getD 0 default).number), vI 4] h rfl Ty.ag79 Ty.sz79 rfl⟩, trivial⟩) rfl _ (fun _ h => h.keep [false, false, false, true, true, true, true] rfl) (fun _ _ h => (hB11.back _ _ h)) (fun wx hw => ⟨(rows.getD 0 default).number, 4, o, oA, oC, ([] : List Statement), ?_, ?_, R39.okN_nil, ?_, ?_, ?_⟩)
    ·rfl
    ·rfl
    ·first | exact (List.append_nil o).symm | assumption
    ·first | assumption | omega
    ·first
      | (rw [List.append_nil]; first | exact .err (R39.call_e3 (by assumption)) (by decide) | exact .err (R39.call_e3v (by assumption) hv9) (by decide) | exact .err (R39.call_e4 (by assumption) hf10 hxn) (by decide) | exact .err (R39.call_e4v (by assumption) hf10 hxp (R39.CallJ.bad (i1_0.1 _ leftm) (by assumption))) (by decide))
      | exact R39.call_read (by assumption) hf10 hxp (i1_1.done left0) no_such_condition (i1_0.done left0) no_such_condition
  ·refine g_ (s_ mv_ (s_ (x_subrow (lo := 3) (hi := ws.length) rfl Tryd.underlying24 Ty.sz9 (.inl rfl) (.inr ⟨rfl, rfl⟩) lt_ lt_) ?_))
   have hro50 := RO.subM wsR wsC 3 (ws.length - 3) lt_
   rw [show ws.length - 3 = (ws.drop 3).length from List.length_drop.symm, List.take_length] at hro50
   refine JO_weaken (E' := [(0, pB r 0), (1, vG [vL rowsA rows.length rowsC, vS cl, vB false]), (2, vL wsA ws.length wsC), (4, pB b1 0), (6, vI 0), (7, pB b2 0), (18, pB b1 2), (19, vB false), (22, vL wsA ws.length wsC), (23, vI ((ws.length : Nat) : Int)), (24, vB (decide (((ws.length : Nat) : Int) < 3))), (25, vB (decide (((ws.length : Nat) : Int) < 3))), (31, vB ((decide (((ws.length : Nat) : Int) < 3)) || (!(R39.symV (ws.getD 1 []))))), (32, vB ((decide (((ws.length : Nat) : Int) < 3)) || (!(R39.symV (ws.getD 1 []))))), (38, vB (((decide (((ws.length : Nat) : Int) < 3)) || (!(R39.symV (ws.getD 1 [])))) || (!(R39.symV (ws.getD 2 []))))), (42, vL wsA ws.length wsC), (43, vL (subA wsA wsC 3 1) ((ws.drop 3).length) (wsC - 3))]) (L' := [Ent.blk b2 79 [vI 0, vI 0], Ent.blk b1 82 [vL rowsA rows.length rowsC, vS cl, vB false], Ent.blk r 77 [Value.map (some mB), Value.map (some qB), vL oA o.length oC], Ent.mp vS mB (M.map kvS), Ent.mp vS qB (P.map R39.procE), Ent.row (.slice oA o.length oC) 40 4 o.length (o.flatMap Statement.enc)]) ⟨rfl, rfl, rfl, rfl, rfl, rfl, rfl, rfl, rfl, rfl, rfl, rfl, rfl, rfl, rfl, rfl, (congrArg (fun n : Nat => some (Value.slice (subA wsA wsC 3 1) n (wsC - 3))) (by exact List.length_drop.symm)), trivial⟩ (fun _ h => h) ?_
   refine c0 (cl_ Ty.ca98) (fun w hS => vals_no _ _ _ w (rno hro50 hS) (hT.on hS (fun _ h => by cases h)) hy_ hy_ hy_) (s_ mv_ (s_ (ex_ 0) (s_ (ex_ 1) (s_ av_ (s_ av_ (z_ (xk_ [0, 2, 4, 6, 7, 8, 9] ?_)))))))
   refine n_ (q_ (q_ (g_ (s_ mv_ (jr_ (vB true) (z_ (n_ (ift (q_ (g_ (r_ (ldN 1 [vL rowsA rows.length rowsC, vS cl, vB false] Ty.ag82 Ty.sz82) (c0 (cl_ Ty.ca91) (fun w hS => f91_ok rows _ _ cl _ 3 w (rno rowsR hS) hy_) (s_ av_ (o_ (stG 0 Ty.sz79 ?_)))))))))))))))
   refine z_ (n_ (rt_ (nr_ ?_)))
   refine JX_retsD [_, _] (Value.tuple #[_, _]) Tryd.results89 (fun w h => ⟨rfl, ⟨_, rfl, load_blkN 0 [vI ((rows.getD 0 default).number), vI 3] h rfl Ty.ag79 Ty.sz79 rfl⟩, trivial⟩) rfl _ (fun _ h => h.keep [false, false, true, true, true, true] rfl) (fun _ _ h => h) (fun wx hw => ⟨(rows.getD 0 default).number, 3, o, oA, oC, ([] : List Statement), ?_, ?_, R39.okN_nil, ?_, ?_, ?_⟩)
   ·rfl
   ·rfl
   ·first | exact (List.append_nil o).symm | assumption
   ·first | assumption | omega
   ·first
     | (rw [List.append_nil]; first | exact .err (R39.call_e3 (by assumption)) (by decide) | exact .err (R39.call_e3v (by assumption) hv9) (by decide) | exact .err (R39.call_e4 (by assumption) no_such_condition hxn) (by decide) | exact .err (R39.call_e4v (by assumption) no_such_condition hxp (R39.CallJ.bad (i1_0.1 _ leftm) (by assumption))) (by decide))
     | exact R39.call_read (by assumption) no_such_condition hxp (i1_1.done left0) no_such_condition (i1_0.done left0) no_such_condition
end Go.Proofs.YtbfiibgmgopnaaaDoor
