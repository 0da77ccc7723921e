/- C40h, Mt40 in one text. -/
import Derived.Test.YtngjdmhpljmkpaaGreatDoorC40g
import Derived.Test.YtngjdmhpljmkpaaGreatDoorConditionWords3
import Derived.Test.YtngjdmhpljmkpaaGreatDoorConditionWords4
set_option linter.unusedVariables false
set_option linter.unusedSimpArgs false
namespace Go.Proofs.YtngjdmhpljmkpaaGreatDoor
open Go.GV
set_option linter.unusedVariables false
set_option linter.unusedSimpArgs false
def OrOk (m : Nat) : Prop := ∀ (p : Nat) (ws : List Bytes) (wsA : Option Addr) (wsC : Nat) (i : Nat) (o : List Test) (oA : Option Addr) (oC : Nat) (oN : Nat) (w : World) (wsR : RO (Lown [Ent.blk p 43 [vL wsA ws.length wsC, vI ((i : Nat) : Int), vL oA oN oC], Ent.row (.slice oA oN oC) 40 4 oN (o.flatMap Test.enc)]) w wsA (ws.map vS)) (hT : Tab (Lown [Ent.blk p 43 [vL wsA ws.length wsC, vI ((i : Nat) : Int), vL oA oN oC], Ent.row (.slice oA oN oC) 40 4 oN (o.flatMap Test.enc)]) w) (oQ : oN = o.length) (q0 : ws.length ≤ 1000000) (q1 : i ≤ ws.length) (q2 : o.length ≤ i) (q3 : ∀ k, (ws.getD k []).length ≤ 140737488355328) (hg : Give (Lown [Ent.blk p 43 [vL wsA ws.length wsC, vI ((i : Nat) : Int), vL oA oN oC], Ent.row (.slice oA oN oC) 40 4 oN (o.flatMap Test.enc)]) w [Ent.blk p 43 [vL wsA ws.length wsC, vI ((i : Nat) : Int), vL oA oN oC], Ent.row (.slice oA oN oC) 40 4 oN (o.flatMap Test.enc)]), ws.length - i < m → Calls Tryz.prog 21 #[pB p 0] w (Gives (Lown [Ent.blk p 43 [vL wsA ws.length wsC, vI ((i : Nat) : Int), vL oA oN oC], Ent.row (.slice oA oN oC) 40 4 oN (o.flatMap Test.enc)]) w fun v L => ∃ y : List Test, ∃ yA : Option Addr, ∃ yC : Nat, v = vB ((R40.orN ws m i).ok) ∧ L = [Ent.blk p 43 [vL wsA ws.length wsC, vI (((R40.orN ws m i).pos : Nat) : Int), vL yA y.length yC], Ent.row (.slice yA y.length yC) 40 4 y.length (y.flatMap Test.enc)] ∧ ((R40.orN ws m i).ok = true → y = o ++ (R40.orN ws m i).out) ∧ (y.length + i ≤ o.length + (R40.orN ws m i).pos) ∧ ((R40.orN ws m i).pos ≤ ws.length) ∧ ((R40.orN ws m i).ok = true → i < (R40.orN ws m i).pos) ∧ (i ≤ (R40.orN ws m i).pos))
theorem c40h0_ {p : Prop} (h : p := by (intro he; simp only [hE] at he; first | (cases he; done) | (rw [hE]; exact i1_1))) : p := h
theorem c40h1_ {p : Prop} (h : p := by (intro he; simp only [hE] at he; first | (cases he; done) | (rw [hE]; dsimp only; omega))) : p := h
theorem c40h2_ {p : Prop} (h : p := by (intro he; simp only [hE] at he; first | (cases he; done) | (rw [hE]; dsimp only; omega) | (have hq := no_such_condition he; rw [hE]; dsimp only; omega))) : p := h
theorem c40h3_ {p : Prop} (h : p := by simp only [List.length_append, List.length_cons, List.length_nil]; have hq := hf20 (by assumption); omega) : p := h
set_option maxRecDepth 20000 in
theorem f66_ok (p : Nat) (ws : List Bytes) (wsA : Option Addr) (wsC : Nat) (i : Nat) (o : List Test) (oA : Option Addr) (oC : Nat) (oN : Nat) (m : Nat) (w : World) (wsR : RO (Lown [Ent.blk p 43 [vL wsA ws.length wsC, vI ((i : Nat) : Int), vL oA oN oC], Ent.row (.slice oA oN oC) 40 4 oN (o.flatMap Test.enc)]) w wsA (ws.map vS)) (hT : Tab (Lown [Ent.blk p 43 [vL wsA ws.length wsC, vI ((i : Nat) : Int), vL oA oN oC], Ent.row (.slice oA oN oC) 40 4 oN (o.flatMap Test.enc)]) w) (oQ : oN = o.length) (q0 : ws.length ≤ 1000000) (q1 : i ≤ ws.length) (q2 : o.length ≤ i) (q3 : ∀ k, (ws.getD k []).length ≤ 140737488355328) (hOr : OrOk m) (hm : ws.length - i ≤ m) (hg : Give (Lown [Ent.blk p 43 [vL wsA ws.length wsC, vI ((i : Nat) : Int), vL oA oN oC], Ent.row (.slice oA oN oC) 40 4 oN (o.flatMap Test.enc)]) w [Ent.blk p 43 [vL wsA ws.length wsC, vI ((i : Nat) : Int), vL oA oN oC], Ent.row (.slice oA oN oC) 40 4 oN (o.flatMap Test.enc)]) : Calls Tryz.prog 66 #[pB p 0] w (Gives (Lown [Ent.blk p 43 [vL wsA ws.length wsC, vI ((i : Nat) : Int), vL oA oN oC], Ent.row (.slice oA oN oC) 40 4 oN (o.flatMap Test.enc)]) w fun v L => ∃ y : List Test, ∃ yA : Option Addr, ∃ yC : Nat, v = vB ((R40.partG ws (R40.orN ws m) i).ok) ∧ L = [Ent.blk p 43 [vL wsA ws.length wsC, vI (((R40.partG ws (R40.orN ws m) i).pos : Nat) : Int), vL yA y.length yC], Ent.row (.slice yA y.length yC) 40 4 y.length (y.flatMap Test.enc)] ∧ ((R40.partG ws (R40.orN ws m) i).ok = true → y = o ++ (R40.partG ws (R40.orN ws m) i).out) ∧ (y.length + i ≤ o.length + (R40.partG ws (R40.orN ws m) i).pos) ∧ ((R40.partG ws (R40.orN ws m) i).pos ≤ ws.length) ∧ ((R40.partG ws (R40.orN ws m) i).ok = true → i < (R40.partG ws (R40.orN ws m) i).pos) ∧ (i ≤ (R40.partG ws (R40.orN ws m) i).pos)) := by
 subst oQ
 refine calls_J (Lown [Ent.blk p 43 [vL wsA ws.length wsC, vI ((i : Nat) : Int), vL oA o.length oC], Ent.row (.slice oA o.length oC) 40 4 o.length (o.flatMap Test.enc)]) 48 Tryz.func66 rfl Tryz.ntmps66 [(0, _)] rfl rfl hg ?_
 refine q_ (g_ (s_ av_ (z_ (n_ (q_ (g_ (s_ av_ (z_ (n_ (q_ (k_ ?_)))))))))))
 refine J_loop (X := Nat × Nat) (fun (⟨n, j⟩ : Nat × Nat) => (j = i + n) ∧ (R40.nots ws i = n + R40.nots ws j) ∧ (j ≤ ws.length)) (fun (⟨n, j⟩ : Nat × Nat) => [(0, pB p 0), (2, vB false), (3, vI ((n : Nat) : Int))]) (fun (⟨n, j⟩ : Nat × Nat) => [Ent.blk p 43 [vL wsA ws.length wsC, vI ((j : Nat) : Int), vL oA o.length oC], Ent.row (.slice oA o.length oC) 40 4 o.length (o.flatMap Test.enc)]) (fun (⟨n, j⟩ : Nat × Nat) => ws.length - j) ((0, i) : Nat × Nat) ?_ ⟨rfl, rfl, rfl, trivial⟩ (fun _ h => h) ?_
 ·try dsimp only
  refine ⟨?_, ?_, ?_⟩
  ·rfl
  ·(rw [Nat.zero_add])
  ·omega
 rintro ⟨n, j⟩ hI1
 obtain ⟨i1_0, i1_1, i1_2⟩ := hI1
 try dsimp only at i1_0
 try dsimp only at i1_1
 try dsimp only at i1_2
 try dsimp only
 refine q_ (q_ (g_ (s_ mv_ ?_)))
 refine JO_call [p] [Ent.blk p 43 [vL wsA ws.length wsC, vI ((j : Nat) : Int), vL oA o.length oC]] [Ent.row (.slice oA o.length oC) 40 4 o.length (o.flatMap Test.enc)] rfl trivial (fun _ => x_call Ty.ca65 rfl) (fun _ h => h) (own_mem rfl) (fun w hS => f65_ok p ws wsA wsC j [110, 111, 116] oA o.length oC w (wsR.on hS (own_mem rfl)) hy_ hy_ (hS.give (own_in rfl))) ?_
 rintro _ _ ⟨j1, rfl, rfl, hf2, hf3⟩
 try simp only [List.length_cons, List.length_nil, Nat.zero_add, Nat.reduceAdd] at hf2
 have ha4 := @R40.is_bd ws j [110, 111, 116] j1 (by assumption) (by assumption)
 try simp only [List.length_cons, List.length_nil, Nat.zero_add, Nat.reduceAdd, Nat.reduceMul] at ha4
 refine z_ (n_ ?_)
 refine if_ (fun h5 => ?_) (fun h5 => ?_)
 ·have h5w := h5
  obtain ⟨rfl, _⟩ := hf2 (by assumption)
  refine sk_ (n_ (k_ (g_ (s_ mv_ (s_ (x_add_n (a := n) (b := 1) rfl rfl (by omega)) (s_ av_ (z_ (kx_ ?_))))))))
  refine JX_round ((n + 1, (j + 1)) : Nat × Nat) ?_ ?_ ⟨rfl, rfl, rfl, trivial⟩ (fun _ h => h)
  ·try dsimp only
   refine ⟨?_, ?_, ?_⟩
   ·omega
   ·have hns := R40.nots_step (ws := ws) (i := j) (by assumption)
    omega
   ·omega
  ·try dsimp only
   first | omega | (simp; omega) | (simp_all; omega)
 ·have h5w := h5
  obtain rfl := hf3 (by assumption)
  refine J_exit (ne_ (re_ ?_))
  have hn0 := R40.nots_none (ws := ws) (i := j) (by assumption)
  refine kh_ (n_ (q_ (g_ (s_ av_ (z_ (n_ (q_ (k_ (q_ (g_ (s_ mv_ ?_)))))))))))
  refine JO_call [p] [Ent.blk p 43 [vL wsA ws.length wsC, vI ((j : Nat) : Int), vL oA o.length oC]] [Ent.row (.slice oA o.length oC) 40 4 o.length (o.flatMap Test.enc)] rfl trivial (fun _ => x_call Ty.ca65 rfl) (fun _ h => h) (own_mem rfl) (fun w hS => f65_ok p ws wsA wsC j [40] oA o.length oC w (wsR.on hS (own_mem rfl)) hy_ hy_ (hS.give (own_in rfl))) ?_
  rintro _ _ ⟨j6, rfl, rfl, hf7, hf8⟩
  try simp only [List.length_cons, List.length_nil, Nat.zero_add, Nat.reduceAdd] at hf7
  have ha9 := @R40.is_bd ws j [40] j6 (by assumption) (by assumption)
  try simp only [List.length_cons, List.length_nil, Nat.zero_add, Nat.reduceAdd, Nat.reduceMul] at ha9
  refine s_ av_ (z_ (n_ ?_))
  refine if_ (fun h10 => ?_) (fun h10 => ?_)
  ·have h10w := h10
   obtain ⟨rfl, _⟩ := hf7 (by assumption)
   refine g_ (s_ mv_ ?_)
   refine JO_call (Lown [Ent.blk p 43 [vL wsA ws.length wsC, vI (((j + 1) : Nat) : Int), vL oA o.length oC], Ent.row (.slice oA o.length oC) 40 4 o.length (o.flatMap Test.enc)]) [Ent.blk p 43 [vL wsA ws.length wsC, vI (((j + 1) : Nat) : Int), vL oA o.length oC], Ent.row (.slice oA o.length oC) 40 4 o.length (o.flatMap Test.enc)] [] rfl trivial (fun _ => x_call Ty.ca21 rfl) (fun _ h => h) lown_mem (fun w hS => hOr p ws wsA wsC (j + 1) o oA oC o.length w (wsR.on hS lown_mem) (hT.on hS lown_mem) hy_ hy_ hy_ hy_ hy_ (hS.give lown_in) (by omega)) ?_
   rintro _ _ ⟨y11, yA12, yC13, rfl, rfl, hf14, hf15, hf16, hf17, hf18⟩
   refine s_ mv_ ?_
   rcases Bool.eq_false_or_eq_true ((R40.orN ws m (j + 1)).ok) with g19 | g19
   ·have g19r := g19
    refine sg_ g19 mv_ ?_
    refine JO_call [p] [Ent.blk p 43 [vL wsA ws.length wsC, vI ((((R40.orN ws m (j + 1)).pos) : Nat) : Int), vL yA12 y11.length yC13]] [Ent.row (.slice yA12 y11.length yC13) 40 4 y11.length (y11.flatMap Test.enc)] rfl ⟨_, rfl, g19⟩ (fun _ => x_call Ty.ca65 rfl) (fun _ h => h) (own_mem rfl) (fun w hS => f65_ok p ws wsA wsC ((R40.orN ws m (j + 1)).pos) [41] yA12 y11.length yC13 w (wsR.on hS (own_mem rfl)) hy_ hy_ (hS.give (own_in rfl))) ?_
    rintro _ _ ⟨j20, rfl, rfl, hf21, hf22⟩
    try simp only [List.length_cons, List.length_nil, Nat.zero_add, Nat.reduceAdd] at hf21
    have ha23 := @R40.is_bd ws ((R40.orN ws m (j + 1)).pos) [41] j20 (by assumption) (by assumption)
    try simp only [List.length_cons, List.length_nil, Nat.zero_add, Nat.reduceAdd, Nat.reduceMul] at ha23
    refine js_ (vB (R40.isA ws ((R40.orN ws m (j + 1)).pos) [41])) (x_pick_t rfl g19 rfl) (s_ av_ (z_ (kx_ (n_ (q_ (q_ (g_ (s_ mv_ (s_ mv_ (z_ (n_ (k_ ?_))))))))))))
    refine J_loop (X := Nat × (List Test) × (Option Addr) × Nat) (fun (⟨q, y, yA, yC⟩ : Nat × (List Test) × (Option Addr) × Nat) => (q ≤ n) ∧ (y = y11 ++ List.replicate q (R40.bare 4))) (fun (⟨q, y, yA, yC⟩ : Nat × (List Test) × (Option Addr) × Nat) => [(0, pB p 0), (2, vB false), (4, vB (R40.isA ws ((R40.orN ws m (j + 1)).pos) [41])), (33, vI ((n : Nat) : Int)), (34, vI ((q : Nat) : Int))]) (fun (⟨q, y, yA, yC⟩ : Nat × (List Test) × (Option Addr) × Nat) => [Ent.blk p 43 [vL wsA ws.length wsC, vI ((j20 : Nat) : Int), vL yA y.length yC], Ent.row (.slice yA y.length yC) 40 4 y.length (y.flatMap Test.enc)]) (fun (⟨q, y, yA, yC⟩ : Nat × (List Test) × (Option Addr) × Nat) => n - q) ((0, y11, yA12, yC13) : Nat × (List Test) × (Option Addr) × Nat) ?_ ⟨rfl, rfl, rfl, rfl, rfl, trivial⟩ (fun _ h => h) ?_
    ·try dsimp only
     refine ⟨?_, ?_⟩
     ·omega
     ·exact (List.append_nil _).symm
    rintro ⟨q, y, yA, yC⟩ hI2
    obtain ⟨i2_0, i2_1⟩ := hI2
    try dsimp only at i2_0
    try dsimp only at i2_1
    have hyl := congrArg List.length i2_1
    simp only [List.length_append, List.length_replicate, List.length_cons, List.length_nil] at hyl
    try dsimp only
    refine q_ (g_ (s_ (x_lss_i rfl rfl) (z_ (n_ (q_ ?_)))))
    refine ifd (fun h24w h24 => ?_) (fun h24w h24 => ?_)
    ·refine sk_ (n_ (q_ (k_ (g_ (s_ mv_ (s_ mv_ (s_ (x_nilCheck rfl) (s_ (fA 2 Ty.fi43_2) (r_ (ld_ 0 Ty.sc23) (js_ (vG [vI 4, vS [], vI 0, vI 0]) (x_build (by kernel_rfl)) (o_ (O_buildSlice (cs := [vI 4, vS [], vI 0, vI 0]) Tryz.underlying23 Ty.sz40 Ty.ze40 (by decide) (by decide) (by kernel_rfl) fun b25 => ?_))))))))))))
     refine o_ (O_append_f 2 Test.enc 4 y [(Test.mk 4 [] 0 0)] Tryz.underlying23 Ty.sz40 Ty.by40 Ty.ze40 rfl (by decide) rfl rfl rfl rfl Test.enc_len Test.enc_one (cells_blk 0 (off := 0) (m := 4) rfl rfl) lt_ lt_ fun A26 c27 => ?_)
     refine s_ (x_nilCheck rfl) (s_ (fA 2 Ty.fi43_2) (o_ (st1 1 Ty.sz23 ?_)))
     refine z_ (kx_ (n_ (g_ (s_ (x_add_n (a := q) (b := 1) rfl rfl (by omega)) (s_ mv_ (z_ ?_))))))
     refine JX_round ((q + 1, y ++ [(Test.mk 4 [] 0 0)], A26, c27) : Nat × (List Test) × (Option Addr) × Nat) ?_ ?_ ⟨rfl, rfl, rfl, rfl, rfl, trivial⟩ (fun _ h => h.keep [false, true, true] rfl)
     ·try dsimp only
      refine ⟨?_, ?_⟩
      ·omega
      ·rw [i2_1, List.replicate_succ', ← List.append_assoc]; rfl
     ·try dsimp only
      first | omega | (simp; omega) | (simp_all; omega)
    ·refine J_exit (ne_ (re_ (kh_ (n_ (q_ ?_)))))
     refine g_ (s_ mv_ (s_ av_ (z_ (n_ (rt_ ?_)))))
     first
      | have hE := R40.part_eq' (ws := ws) (i := i) (orF := R40.orN ws m) (n := n) (by omega) i1_0 (R40.core_lp0 (by assumption) (by assumption))
      | have hE := R40.part_eq' (ws := ws) (i := i) (orF := R40.orN ws m) (n := n) (by omega) i1_0 (R40.core_lp (by assumption) (by assumption) (by assumption) (by assumption))
      | have hE := R40.part_eq' (ws := ws) (i := i) (orF := R40.orN ws m) (n := n) (by omega) i1_0 (R40.core_any (by assumption) (by assumption))
      | have hE := R40.part_eq' (ws := ws) (i := i) (orF := R40.orN ws m) (n := n) (by omega) i1_0 (R40.core_basic' (by assumption) (by assumption))
     refine JX_rets [_] _ Tryz.results66 (fun w h => ⟨rfl, trivial⟩) rfl _ (fun _ h => h) ⟨y, yA, yC, ?_, ?_, ?_, ?_, ?_, ?_, ?_⟩
     ·have e_x0 : (R40.isA ws ((R40.orN ws m (j + 1)).pos) [41] : Bool) = ((R40.partG ws (R40.orN ws m) i).ok) := by first | rfl | (rw [hE]; done)
      exact congrArg (fun (x0 : Bool) => vB x0) e_x0
     ·have e_y0 : (j20 : Nat) = (R40.partG ws (R40.orN ws m) i).pos := by
       first | rfl | (rw [hE]; done)
      have e_all := (congrArg (fun (y0 : Nat) => [Ent.blk p 43 [vL wsA ws.length wsC, vI ((y0 : Nat) : Int), vL yA y.length yC], Ent.row (.slice yA y.length yC) 40 4 y.length (y.flatMap Test.enc)]) e_y0)
      exact e_all
     ·(intro he; rw [hE]; dsimp only; rw [i2_1, show q = n by omega, ← List.append_assoc]; refine congrArg (· ++ List.replicate n (R40.bare 4)) ?_; simp only [hE] at he; first | (cases he; done) | rfl | exact hf14 (by assumption) | exact no_such_condition he)
     ·(rw [hE]; dsimp only; omega)
     ·(rw [hE]; dsimp only; omega)
     ·exact c40h2_
     ·(rw [hE]; dsimp only; omega)
   ·have g19r := g19
    refine sh_ g19 (sh_ g19 (js_ (vB false) (x_pick_f rfl g19 rfl) (s_ av_ (z_ (kx_ (n_ (q_ (q_ (g_ (s_ mv_ (s_ mv_ (z_ (n_ (k_ ?_))))))))))))))
    refine J_loop (X := Nat × (List Test) × (Option Addr) × Nat) (fun (⟨q, y, yA, yC⟩ : Nat × (List Test) × (Option Addr) × Nat) => (q ≤ n) ∧ (y = y11 ++ List.replicate q (R40.bare 4))) (fun (⟨q, y, yA, yC⟩ : Nat × (List Test) × (Option Addr) × Nat) => [(0, pB p 0), (2, vB false), (4, vB false), (33, vI ((n : Nat) : Int)), (34, vI ((q : Nat) : Int))]) (fun (⟨q, y, yA, yC⟩ : Nat × (List Test) × (Option Addr) × Nat) => [Ent.blk p 43 [vL wsA ws.length wsC, vI (((R40.orN ws m (j + 1)).pos : Nat) : Int), vL yA y.length yC], Ent.row (.slice yA y.length yC) 40 4 y.length (y.flatMap Test.enc)]) (fun (⟨q, y, yA, yC⟩ : Nat × (List Test) × (Option Addr) × Nat) => n - q) ((0, y11, yA12, yC13) : Nat × (List Test) × (Option Addr) × Nat) ?_ ⟨rfl, rfl, rfl, rfl, rfl, trivial⟩ (fun _ h => h) ?_
    ·try dsimp only
     refine ⟨?_, ?_⟩
     ·omega
     ·exact (List.append_nil _).symm
    rintro ⟨q, y, yA, yC⟩ hI2
    obtain ⟨i2_0, i2_1⟩ := hI2
    try dsimp only at i2_0
    try dsimp only at i2_1
    have hyl := congrArg List.length i2_1
    simp only [List.length_append, List.length_replicate, List.length_cons, List.length_nil] at hyl
    try dsimp only
    refine q_ (g_ (s_ (x_lss_i rfl rfl) (z_ (n_ (q_ ?_)))))
    refine ifd (fun h28w h28 => ?_) (fun h28w h28 => ?_)
    ·refine sk_ (n_ (q_ (k_ (g_ (s_ mv_ (s_ mv_ (s_ (x_nilCheck rfl) (s_ (fA 2 Ty.fi43_2) (r_ (ld_ 0 Ty.sc23) (js_ (vG [vI 4, vS [], vI 0, vI 0]) (x_build (by kernel_rfl)) (o_ (O_buildSlice (cs := [vI 4, vS [], vI 0, vI 0]) Tryz.underlying23 Ty.sz40 Ty.ze40 (by decide) (by decide) (by kernel_rfl) fun b29 => ?_))))))))))))
     refine o_ (O_append_f 2 Test.enc 4 y [(Test.mk 4 [] 0 0)] Tryz.underlying23 Ty.sz40 Ty.by40 Ty.ze40 rfl (by decide) rfl rfl rfl rfl Test.enc_len Test.enc_one (cells_blk 0 (off := 0) (m := 4) rfl rfl) lt_ lt_ fun A30 c31 => ?_)
     refine s_ (x_nilCheck rfl) (s_ (fA 2 Ty.fi43_2) (o_ (st1 1 Ty.sz23 ?_)))
     refine z_ (kx_ (n_ (g_ (s_ (x_add_n (a := q) (b := 1) rfl rfl (by omega)) (s_ mv_ (z_ ?_))))))
     refine JX_round ((q + 1, y ++ [(Test.mk 4 [] 0 0)], A30, c31) : Nat × (List Test) × (Option Addr) × Nat) ?_ ?_ ⟨rfl, rfl, rfl, rfl, rfl, trivial⟩ (fun _ h => h.keep [false, true, true] rfl)
     ·try dsimp only
      refine ⟨?_, ?_⟩
      ·omega
      ·rw [i2_1, List.replicate_succ', ← List.append_assoc]; rfl
     ·try dsimp only
      first | omega | (simp; omega) | (simp_all; omega)
    ·refine J_exit (ne_ (re_ (kh_ (n_ (q_ ?_)))))
     refine g_ (s_ mv_ (s_ av_ (z_ (n_ (rt_ ?_)))))
     first
      | have hE := R40.part_eq' (ws := ws) (i := i) (orF := R40.orN ws m) (n := n) (by omega) i1_0 (R40.core_lp0 (by assumption) (by assumption))
      | have hE := R40.part_eq' (ws := ws) (i := i) (orF := R40.orN ws m) (n := n) (by omega) i1_0 (R40.core_lp (by assumption) (by assumption) (by assumption) (by assumption))
      | have hE := R40.part_eq' (ws := ws) (i := i) (orF := R40.orN ws m) (n := n) (by omega) i1_0 (R40.core_any (by assumption) (by assumption))
      | have hE := R40.part_eq' (ws := ws) (i := i) (orF := R40.orN ws m) (n := n) (by omega) i1_0 (R40.core_basic' (by assumption) (by assumption))
     refine JX_rets [_] _ Tryz.results66 (fun w h => ⟨rfl, trivial⟩) rfl _ (fun _ h => h) ⟨y, yA, yC, ?_, ?_, ?_, ?_, ?_, ?_, ?_⟩
     ·have e_x0 : (false : Bool) = ((R40.partG ws (R40.orN ws m) i).ok) := by first | rfl | (rw [hE]; done)
      exact congrArg (fun (x0 : Bool) => vB x0) e_x0
     ·have e_y0 : ((R40.orN ws m (j + 1)).pos : Nat) = (R40.partG ws (R40.orN ws m) i).pos := by
       first | rfl | (rw [hE]; done)
      have e_all := (congrArg (fun (y0 : Nat) => [Ent.blk p 43 [vL wsA ws.length wsC, vI ((y0 : Nat) : Int), vL yA y.length yC], Ent.row (.slice yA y.length yC) 40 4 y.length (y.flatMap Test.enc)]) e_y0)
      exact e_all
     ·(intro he; rw [hE]; dsimp only; rw [i2_1, show q = n by omega, ← List.append_assoc]; refine congrArg (· ++ List.replicate n (R40.bare 4)) ?_; simp only [hE] at he; first | (cases he; done) | rfl | exact hf14 (by assumption) | exact no_such_condition he)
     ·(rw [hE]; dsimp only; omega)
     ·(rw [hE]; dsimp only; omega)
     ·exact c40h2_
     ·(rw [hE]; dsimp only; omega)
  ·have h10w := h10
   obtain rfl := hf8 (by assumption)
   refine q_ (g_ (s_ mv_ ?_))
   refine JO_call [p] [Ent.blk p 43 [vL wsA ws.length wsC, vI ((j : Nat) : Int), vL oA o.length oC]] [Ent.row (.slice oA o.length oC) 40 4 o.length (o.flatMap Test.enc)] rfl trivial (fun _ => x_call Ty.ca65 rfl) (fun _ h => h) (own_mem rfl) (fun w hS => f65_ok p ws wsA wsC j [102, 97, 105, 108, 101, 100] oA o.length oC w (wsR.on hS (own_mem rfl)) hy_ hy_ (hS.give (own_in rfl))) ?_
   rintro _ _ ⟨j32, rfl, rfl, hf33, hf34⟩
   try simp only [List.length_cons, List.length_nil, Nat.zero_add, Nat.reduceAdd] at hf33
   have ha35 := @R40.is_bd ws j [102, 97, 105, 108, 101, 100] j32 (by assumption) (by assumption)
   try simp only [List.length_cons, List.length_nil, Nat.zero_add, Nat.reduceAdd, Nat.reduceMul] at ha35
   refine s_ av_ (z_ (n_ ?_))
   refine if_ (fun h36 => ?_) (fun h36 => ?_)
   ·have h36w := h36
    obtain ⟨rfl, _⟩ := hf33 (by assumption)
    refine g_ (s_ mv_ (s_ mv_ (s_ (x_nilCheck rfl) (s_ (fA 2 Ty.fi43_2) (r_ (ld_ 0 Ty.sc23) (js_ (vG [vI 3, vS [], vI 0, vI 0]) (x_build (by kernel_rfl)) (o_ (O_buildSlice (cs := [vI 3, vS [], vI 0, vI 0]) Tryz.underlying23 Ty.sz40 Ty.ze40 (by decide) (by decide) (by kernel_rfl) fun b37 => ?_))))))))
    refine o_ (O_append_f 2 Test.enc 4 o [(Test.mk 3 [] 0 0)] Tryz.underlying23 Ty.sz40 Ty.by40 Ty.ze40 rfl (by decide) rfl rfl rfl rfl Test.enc_len Test.enc_one (cells_blk 0 (off := 0) (m := 4) rfl rfl) lt_ lt_ fun A38 c39 => ?_)
    refine s_ (x_nilCheck rfl) (s_ (fA 2 Ty.fi43_2) (o_ (st1 1 Ty.sz23 ?_)))
    refine s_ av_ (z_ (kx_ (n_ (q_ (q_ (g_ (s_ mv_ (s_ mv_ (z_ (xk_ [0, 2, 4, 33, 34] ?_))))))))))
    refine n_ (k_ ?_)
    refine J_loop (X := Nat × (List Test) × (Option Addr) × Nat) (fun (⟨q, y, yA, yC⟩ : Nat × (List Test) × (Option Addr) × Nat) => (q ≤ n) ∧ (y = (o ++ [(Test.mk 3 [] 0 0)]) ++ List.replicate q (R40.bare 4))) (fun (⟨q, y, yA, yC⟩ : Nat × (List Test) × (Option Addr) × Nat) => [(0, pB p 0), (2, vB false), (4, vB true), (33, vI ((n : Nat) : Int)), (34, vI ((q : Nat) : Int))]) (fun (⟨q, y, yA, yC⟩ : Nat × (List Test) × (Option Addr) × Nat) => [Ent.blk p 43 [vL wsA ws.length wsC, vI (((j + 1) : Nat) : Int), vL yA y.length yC], Ent.row (.slice yA y.length yC) 40 4 y.length (y.flatMap Test.enc)]) (fun (⟨q, y, yA, yC⟩ : Nat × (List Test) × (Option Addr) × Nat) => n - q) ((0, o ++ [(Test.mk 3 [] 0 0)], A38, c39) : Nat × (List Test) × (Option Addr) × Nat) ?_ ⟨rfl, rfl, rfl, rfl, rfl, trivial⟩ (fun _ h => h.keep [false, true, true] rfl) ?_
    ·try dsimp only
     refine ⟨?_, ?_⟩
     ·omega
     ·exact (List.append_nil _).symm
    rintro ⟨q, y, yA, yC⟩ hI2
    obtain ⟨i2_0, i2_1⟩ := hI2
    try dsimp only at i2_0
    try dsimp only at i2_1
    have hyl := congrArg List.length i2_1
    simp only [List.length_append, List.length_replicate, List.length_cons, List.length_nil] at hyl
    try dsimp only
    refine q_ (g_ (s_ (x_lss_i rfl rfl) (z_ (n_ (q_ ?_)))))
    refine ifd (fun h40w h40 => ?_) (fun h40w h40 => ?_)
    ·refine sk_ (n_ (q_ (k_ (g_ (s_ mv_ (s_ mv_ (s_ (x_nilCheck rfl) (s_ (fA 2 Ty.fi43_2) (r_ (ld_ 0 Ty.sc23) (js_ (vG [vI 4, vS [], vI 0, vI 0]) (x_build (by kernel_rfl)) (o_ (O_buildSlice (cs := [vI 4, vS [], vI 0, vI 0]) Tryz.underlying23 Ty.sz40 Ty.ze40 (by decide) (by decide) (by kernel_rfl) fun b41 => ?_))))))))))))
     refine o_ (O_append_f 2 Test.enc 4 y [(Test.mk 4 [] 0 0)] Tryz.underlying23 Ty.sz40 Ty.by40 Ty.ze40 rfl (by decide) rfl rfl rfl rfl Test.enc_len Test.enc_one (cells_blk 0 (off := 0) (m := 4) rfl rfl) lt_ lt_ fun A42 c43 => ?_)
     refine s_ (x_nilCheck rfl) (s_ (fA 2 Ty.fi43_2) (o_ (st1 1 Ty.sz23 ?_)))
     refine z_ (kx_ (n_ (g_ (s_ (x_add_n (a := q) (b := 1) rfl rfl (by omega)) (s_ mv_ (z_ ?_))))))
     refine JX_round ((q + 1, y ++ [(Test.mk 4 [] 0 0)], A42, c43) : Nat × (List Test) × (Option Addr) × Nat) ?_ ?_ ⟨rfl, rfl, rfl, rfl, rfl, trivial⟩ (fun _ h => h.keep [false, true, true] rfl)
     ·try dsimp only
      refine ⟨?_, ?_⟩
      ·omega
      ·rw [i2_1, List.replicate_succ', ← List.append_assoc]; rfl
     ·try dsimp only
      first | omega | (simp; omega) | (simp_all; omega)
    ·refine J_exit (ne_ (re_ (kh_ (n_ (q_ ?_)))))
     refine g_ (s_ mv_ (s_ av_ (z_ (n_ (rt_ ?_)))))
     first
      | have hE := R40.part_eq' (ws := ws) (i := i) (orF := R40.orN ws m) (n := n) (by omega) i1_0 (R40.core_lp0 (by assumption) (by assumption))
      | have hE := R40.part_eq' (ws := ws) (i := i) (orF := R40.orN ws m) (n := n) (by omega) i1_0 (R40.core_lp (by assumption) (by assumption) (by assumption) (by assumption))
      | have hE := R40.part_eq' (ws := ws) (i := i) (orF := R40.orN ws m) (n := n) (by omega) i1_0 (R40.core_any (by assumption) (by assumption))
      | have hE := R40.part_eq' (ws := ws) (i := i) (orF := R40.orN ws m) (n := n) (by omega) i1_0 (R40.core_basic' (by assumption) (by assumption))
     refine JX_rets [_] _ Tryz.results66 (fun w h => ⟨rfl, trivial⟩) rfl _ (fun _ h => h) ⟨y, yA, yC, ?_, ?_, ?_, ?_, ?_, ?_, ?_⟩
     ·have e_x0 : (true : Bool) = ((R40.partG ws (R40.orN ws m) i).ok) := by first | rfl | (rw [hE]; done)
      exact congrArg (fun (x0 : Bool) => vB x0) e_x0
     ·have e_y0 : ((j + 1) : Nat) = (R40.partG ws (R40.orN ws m) i).pos := by
       first | rfl | (rw [hE]; done)
      have e_all := (congrArg (fun (y0 : Nat) => [Ent.blk p 43 [vL wsA ws.length wsC, vI ((y0 : Nat) : Int), vL yA y.length yC], Ent.row (.slice yA y.length yC) 40 4 y.length (y.flatMap Test.enc)]) e_y0)
      exact e_all
     ·(intro he; rw [hE]; dsimp only; rw [i2_1, show q = n by omega, ← List.append_assoc]; refine congrArg (· ++ List.replicate n (R40.bare 4)) ?_; simp only [hE] at he; first | (cases he; done) | rfl | exact no_such_condition (by assumption) | exact no_such_condition he)
     ·(rw [hE]; dsimp only; omega)
     ·(rw [hE]; dsimp only; omega)
     ·exact c40h2_
     ·(rw [hE]; dsimp only; omega)
   ·have h36w := h36
    obtain rfl := hf34 (by assumption)
    refine g_ (s_ mv_ ?_)
    refine JO_call (Lown [Ent.blk p 43 [vL wsA ws.length wsC, vI ((j : Nat) : Int), vL oA o.length oC], Ent.row (.slice oA o.length oC) 40 4 o.length (o.flatMap Test.enc)]) [Ent.blk p 43 [vL wsA ws.length wsC, vI ((j : Nat) : Int), vL oA o.length oC], Ent.row (.slice oA o.length oC) 40 4 o.length (o.flatMap Test.enc)] [] rfl trivial (fun _ => x_call Ty.ca89 rfl) (fun _ h => h) lown_mem (fun w hS => f89_ok p ws wsA wsC j o oA oC o.length w (wsR.on hS lown_mem) (hT.on hS lown_mem) hy_ hy_ hy_ hy_ hy_ (hS.give lown_in)) ?_
    rintro _ _ ⟨y44, yA45, yC46, rfl, rfl, hf47, hf48, hf49, hf50, hf51⟩
    refine s_ av_ (z_ (kx_ (n_ (q_ (q_ (g_ (s_ mv_ (s_ mv_ (z_ (n_ (k_ ?_)))))))))))
    refine J_loop (X := Nat × (List Test) × (Option Addr) × Nat) (fun (⟨q, y, yA, yC⟩ : Nat × (List Test) × (Option Addr) × Nat) => (q ≤ n) ∧ (y = y44 ++ List.replicate q (R40.bare 4))) (fun (⟨q, y, yA, yC⟩ : Nat × (List Test) × (Option Addr) × Nat) => [(0, pB p 0), (2, vB false), (4, vB ((R40.basicV ws j).ok)), (33, vI ((n : Nat) : Int)), (34, vI ((q : Nat) : Int))]) (fun (⟨q, y, yA, yC⟩ : Nat × (List Test) × (Option Addr) × Nat) => [Ent.blk p 43 [vL wsA ws.length wsC, vI (((R40.basicV ws j).pos : Nat) : Int), vL yA y.length yC], Ent.row (.slice yA y.length yC) 40 4 y.length (y.flatMap Test.enc)]) (fun (⟨q, y, yA, yC⟩ : Nat × (List Test) × (Option Addr) × Nat) => n - q) ((0, y44, yA45, yC46) : Nat × (List Test) × (Option Addr) × Nat) ?_ ⟨rfl, rfl, rfl, rfl, rfl, trivial⟩ (fun _ h => h) ?_
    ·try dsimp only
     refine ⟨?_, ?_⟩
     ·omega
     ·exact (List.append_nil _).symm
    rintro ⟨q, y, yA, yC⟩ hI2
    obtain ⟨i2_0, i2_1⟩ := hI2
    try dsimp only at i2_0
    try dsimp only at i2_1
    have hyl := congrArg List.length i2_1
    simp only [List.length_append, List.length_replicate, List.length_cons, List.length_nil] at hyl
    try dsimp only
    refine q_ (g_ (s_ (x_lss_i rfl rfl) (z_ (n_ (q_ ?_)))))
    refine ifd (fun h52w h52 => ?_) (fun h52w h52 => ?_)
    ·refine sk_ (n_ (q_ (k_ (g_ (s_ mv_ (s_ mv_ (s_ (x_nilCheck rfl) (s_ (fA 2 Ty.fi43_2) (r_ (ld_ 0 Ty.sc23) (js_ (vG [vI 4, vS [], vI 0, vI 0]) (x_build (by kernel_rfl)) (o_ (O_buildSlice (cs := [vI 4, vS [], vI 0, vI 0]) Tryz.underlying23 Ty.sz40 Ty.ze40 (by decide) (by decide) (by kernel_rfl) fun b53 => ?_))))))))))))
     refine o_ (O_append_f 2 Test.enc 4 y [(Test.mk 4 [] 0 0)] Tryz.underlying23 Ty.sz40 Ty.by40 Ty.ze40 rfl (by decide) rfl rfl rfl rfl Test.enc_len Test.enc_one (cells_blk 0 (off := 0) (m := 4) rfl rfl) lt_ lt_ fun A54 c55 => ?_)
     refine s_ (x_nilCheck rfl) (s_ (fA 2 Ty.fi43_2) (o_ (st1 1 Ty.sz23 ?_)))
     refine z_ (kx_ (n_ (g_ (s_ (x_add_n (a := q) (b := 1) rfl rfl (by omega)) (s_ mv_ (z_ ?_))))))
     refine JX_round ((q + 1, y ++ [(Test.mk 4 [] 0 0)], A54, c55) : Nat × (List Test) × (Option Addr) × Nat) ?_ ?_ ⟨rfl, rfl, rfl, rfl, rfl, trivial⟩ (fun _ h => h.keep [false, true, true] rfl)
     ·try dsimp only
      refine ⟨?_, ?_⟩
      ·omega
      ·rw [i2_1, List.replicate_succ', ← List.append_assoc]; rfl
     ·try dsimp only
      first | omega | (simp; omega) | (simp_all; omega)
    ·refine J_exit (ne_ (re_ (kh_ (n_ (q_ ?_)))))
     refine g_ (s_ mv_ (s_ av_ (z_ (n_ (rt_ ?_)))))
     first
      | have hE := R40.part_eq' (ws := ws) (i := i) (orF := R40.orN ws m) (n := n) (by omega) i1_0 (R40.core_lp0 (by assumption) (by assumption))
      | have hE := R40.part_eq' (ws := ws) (i := i) (orF := R40.orN ws m) (n := n) (by omega) i1_0 (R40.core_lp (by assumption) (by assumption) (by assumption) (by assumption))
      | have hE := R40.part_eq' (ws := ws) (i := i) (orF := R40.orN ws m) (n := n) (by omega) i1_0 (R40.core_any (by assumption) (by assumption))
      | have hE := R40.part_eq' (ws := ws) (i := i) (orF := R40.orN ws m) (n := n) (by omega) i1_0 (R40.core_basic' (by assumption) (by assumption))
     refine JX_rets [_] _ Tryz.results66 (fun w h => ⟨rfl, trivial⟩) rfl _ (fun _ h => h) ⟨y, yA, yC, ?_, ?_, ?_, ?_, ?_, ?_, ?_⟩
     ·have e_x0 : ((R40.basicV ws j).ok : Bool) = ((R40.partG ws (R40.orN ws m) i).ok) := by first | rfl | (rw [hE]; done)
      exact congrArg (fun (x0 : Bool) => vB x0) e_x0
     ·have e_y0 : ((R40.basicV ws j).pos : Nat) = (R40.partG ws (R40.orN ws m) i).pos := by
       first | rfl | (rw [hE]; done)
      have e_all := (congrArg (fun (y0 : Nat) => [Ent.blk p 43 [vL wsA ws.length wsC, vI ((y0 : Nat) : Int), vL yA y.length yC], Ent.row (.slice yA y.length yC) 40 4 y.length (y.flatMap Test.enc)]) e_y0)
      exact e_all
     ·(intro he; rw [hE]; dsimp only; rw [i2_1, show q = n by omega, ← List.append_assoc]; refine congrArg (· ++ List.replicate n (R40.bare 4)) ?_; simp only [hE] at he; first | (cases he; done) | rfl | exact no_such_condition (by assumption) | exact hf47 he)
     ·(rw [hE]; dsimp only; omega)
     ·(rw [hE]; dsimp only; omega)
     ·(intro he; simp only [hE] at he; first | (cases he; done) | (rw [hE]; dsimp only; omega) | (have hq := hf50 he; rw [hE]; dsimp only; omega))
     ·(rw [hE]; dsimp only; omega)
set_option maxRecDepth 20000 in
theorem fch_part (p : Nat) (ws : List Bytes) (wsA : Option Addr) (wsC : Nat) (i : Nat) (o : List Test) (oA : Option Addr) (oC : Nat) (oN : Nat) (m : Nat) (w : World) (wsR : RO (Lown [Ent.blk p 43 [vL wsA ws.length wsC, vI ((i : Nat) : Int), vL oA oN oC], Ent.row (.slice oA oN oC) 40 4 oN (o.flatMap Test.enc)]) w wsA (ws.map vS)) (hT : Tab (Lown [Ent.blk p 43 [vL wsA ws.length wsC, vI ((i : Nat) : Int), vL oA oN oC], Ent.row (.slice oA oN oC) 40 4 oN (o.flatMap Test.enc)]) w) (oQ : oN = o.length) (q0 : ws.length ≤ 1000000) (q1 : i ≤ ws.length) (q2 : o.length ≤ i) (q3 : ∀ k, (ws.getD k []).length ≤ 140737488355328) (hOr : OrOk m) (hm : ws.length - i ≤ m) (hg : Give (Lown [Ent.blk p 43 [vL wsA ws.length wsC, vI ((i : Nat) : Int), vL oA oN oC], Ent.row (.slice oA oN oC) 40 4 oN (o.flatMap Test.enc)]) w [Ent.blk p 43 [vL wsA ws.length wsC, vI ((i : Nat) : Int), vL oA oN oC], Ent.row (.slice oA oN oC) 40 4 oN (o.flatMap Test.enc)]) : Calls Tryz.prog 45 #[pB p 0, vS [97, 110, 100], vI 5, Value.func (.func 66) #[pB p 0] #[]] w (Gives (Lown [Ent.blk p 43 [vL wsA ws.length wsC, vI ((i : Nat) : Int), vL oA oN oC], Ent.row (.slice oA oN oC) 40 4 oN (o.flatMap Test.enc)]) w fun v L => ∃ y : List Test, ∃ yA : Option Addr, ∃ yC : Nat, v = vB ((R40.andG ws (R40.orN ws m) i).ok) ∧ L = [Ent.blk p 43 [vL wsA ws.length wsC, vI (((R40.andG ws (R40.orN ws m) i).pos : Nat) : Int), vL yA y.length yC], Ent.row (.slice yA y.length yC) 40 4 y.length (y.flatMap Test.enc)] ∧ ((R40.andG ws (R40.orN ws m) i).ok = true → y = o ++ (R40.andG ws (R40.orN ws m) i).out) ∧ (y.length + i ≤ o.length + (R40.andG ws (R40.orN ws m) i).pos) ∧ ((R40.andG ws (R40.orN ws m) i).pos ≤ ws.length) ∧ ((R40.andG ws (R40.orN ws m) i).ok = true → i < (R40.andG ws (R40.orN ws m) i).pos) ∧ (i ≤ (R40.andG ws (R40.orN ws m) i).pos)) := by
 subst oQ
 refine calls_J (Lown [Ent.blk p 43 [vL wsA ws.length wsC, vI ((i : Nat) : Int), vL oA o.length oC], Ent.row (.slice oA o.length oC) 40 4 o.length (o.flatMap Test.enc)]) 29 Tryz.func45 rfl Tryz.ntmps45 [(0, _), (1, _), (2, _), (3, _)] rfl rfl hg ?_
 refine q_ (g_ (s_ av_ (z_ (n_ (q_ (q_ (g_ (s_ mv_ ?_))))))))
 refine JO_call (Lown [Ent.blk p 43 [vL wsA ws.length wsC, vI ((i : Nat) : Int), vL oA o.length oC], Ent.row (.slice oA o.length oC) 40 4 o.length (o.flatMap Test.enc)]) [Ent.blk p 43 [vL wsA ws.length wsC, vI ((i : Nat) : Int), vL oA o.length oC], Ent.row (.slice oA o.length oC) 40 4 o.length (o.flatMap Test.enc)] [] rfl trivial (fun _ => x_callv (first := [pB p 0]) (caps := []) rfl Ty.ca66 rfl) (fun _ h => h) lown_mem (fun w hS => f66_ok p ws wsA wsC i o oA oC o.length m w (wsR.on hS lown_mem) (hT.on hS lown_mem) hy_ hy_ hy_ hy_ hy_ (by exact hOr) (by omega) (hS.give lown_in)) ?_
 rintro _ _ ⟨y1, yA2, yC3, rfl, rfl, hf4, hf5, hf6, hf7, hf8⟩
 refine s_ (x_not rfl) (z_ (n_ ?_))
 refine if_ (fun h9 => ?_) (fun h9 => ?_)
 ·have h9w := h9
  have h9 : ((R40.partG ws (R40.orN ws m) i).ok) = false := bnot_true h9
  refine q_ (g_ (s_ av_ (z_ (n_ (rt_ (nr_ ?_))))))
  first
   | have hE : (R40.andG ws (R40.orN ws m) i) = _ := R40.chain_no (pf := R40.partG ws (R40.orN ws m)) (w := R40.wAND) (k := 5) (by assumption)
   | have hE : (R40.andG ws (R40.orN ws m) i) = _ := R40.chain_bad i1_0 (by omega) (by assumption) (by assumption)
   | have hE : (R40.andG ws (R40.orN ws m) i) = _ := R40.chain_done i1_0 (by assumption)
  refine JX_rets [_] _ Tryz.results45 (fun w h => ⟨rfl, trivial⟩) rfl _ (fun _ h => h) ⟨y1, yA2, yC3, ?_, ?_, ?_, ?_, ?_, ?_, ?_⟩
  ·have e_x0 : (false : Bool) = ((R40.andG ws (R40.orN ws m) i).ok) := by first | rfl | (rw [hE]; done)
   exact congrArg (fun (x0 : Bool) => vB x0) e_x0
  ·have e_y0 : ((R40.partG ws (R40.orN ws m) i).pos : Nat) = (R40.andG ws (R40.orN ws m) i).pos := by
    first | rfl | (rw [hE]; done)
   have e_all := (congrArg (fun (y0 : Nat) => [Ent.blk p 43 [vL wsA ws.length wsC, vI ((y0 : Nat) : Int), vL yA2 y1.length yC3], Ent.row (.slice yA2 y1.length yC3) 40 4 y1.length (y1.flatMap Test.enc)]) e_y0)
   exact e_all
  ·exact c40h0_
  ·(rw [hE]; dsimp only; omega)
  ·(rw [hE]; dsimp only; omega)
  ·exact c40h1_
  ·(rw [hE]; dsimp only; omega)
 ·have h9w := h9
  have h9 : ((R40.partG ws (R40.orN ws m) i).ok) = true := bnot_false h9
  refine sk_ (n_ (q_ (k_ ?_)))
  refine J_loop (X := Nat × (List Test) × (Option Addr) × Nat × Nat × (List Test)) (fun (⟨j, y, yA, yC, n, T⟩ : Nat × (List Test) × (Option Addr) × Nat × Nat × (List Test)) => (R40.chainL ws (R40.partG ws (R40.orN ws m)) R40.wAND 5 n ⟨true, j, T⟩ = (R40.andG ws (R40.orN ws m) i)) ∧ (y = o ++ T) ∧ (j ≤ ws.length) ∧ (ws.length < j + n) ∧ (i < j) ∧ (y.length + i ≤ o.length + j)) (fun (⟨j, y, yA, yC, n, T⟩ : Nat × (List Test) × (Option Addr) × Nat × Nat × (List Test)) => [(0, pB p 0), (1, vS [97, 110, 100]), (2, vI 5), (3, Value.func (.func 66) #[pB p 0] #[])]) (fun (⟨j, y, yA, yC, n, T⟩ : Nat × (List Test) × (Option Addr) × Nat × Nat × (List Test)) => [Ent.blk p 43 [vL wsA ws.length wsC, vI ((j : Nat) : Int), vL yA y.length yC], Ent.row (.slice yA y.length yC) 40 4 y.length (y.flatMap Test.enc)]) (fun (⟨j, y, yA, yC, n, T⟩ : Nat × (List Test) × (Option Addr) × Nat × Nat × (List Test)) => ws.length - j) (((R40.partG ws (R40.orN ws m) i).pos, y1, yA2, yC3, ws.length + 1, (R40.partG ws (R40.orN ws m) i).out) : Nat × (List Test) × (Option Addr) × Nat × Nat × (List Test)) ?_ ⟨rfl, rfl, rfl, rfl, trivial⟩ (fun _ h => h) ?_
  ·try dsimp only
   refine ⟨?_, ?_, ?_, ?_, ?_, ?_⟩
   ·exact R40.chain_start (pf := R40.partG ws (R40.orN ws m)) (w := R40.wAND) (k := 5) (by assumption)
   ·exact hf4 (by assumption)
   ·omega
   ·omega
   ·have hq := hf7 (by assumption); omega
   ·omega
  rintro ⟨j, y, yA, yC, n, T⟩ hI1
  obtain ⟨i1_0, i1_1, i1_2, i1_3, i1_4, i1_5⟩ := hI1
  try dsimp only at i1_0
  try dsimp only at i1_1
  try dsimp only at i1_2
  try dsimp only at i1_3
  try dsimp only at i1_4
  try dsimp only at i1_5
  try dsimp only
  refine q_ (q_ (g_ (s_ mv_ (s_ mv_ ?_))))
  refine JO_call [p] [Ent.blk p 43 [vL wsA ws.length wsC, vI ((j : Nat) : Int), vL yA y.length yC]] [Ent.row (.slice yA y.length yC) 40 4 y.length (y.flatMap Test.enc)] rfl trivial (fun _ => x_call Ty.ca65 rfl) (fun _ h => h) (own_mem rfl) (fun w hS => f65_ok p ws wsA wsC j [97, 110, 100] yA y.length yC w (wsR.on hS (own_mem rfl)) hy_ hy_ (hS.give (own_in rfl))) ?_
  rintro _ _ ⟨j10, rfl, rfl, hf11, hf12⟩
  try simp only [List.length_cons, List.length_nil, Nat.zero_add, Nat.reduceAdd] at hf11
  refine z_ (n_ ?_)
  refine if_ (fun h13 => ?_) (fun h13 => ?_)
  ·have h13w := h13
   obtain ⟨rfl, _⟩ := hf11 (by assumption)
   refine sk_ (n_ (k_ (q_ (q_ (g_ (s_ mv_ ?_))))))
   refine JO_call (Lown [Ent.blk p 43 [vL wsA ws.length wsC, vI (((j + 1) : Nat) : Int), vL yA y.length yC], Ent.row (.slice yA y.length yC) 40 4 y.length (y.flatMap Test.enc)]) [Ent.blk p 43 [vL wsA ws.length wsC, vI (((j + 1) : Nat) : Int), vL yA y.length yC], Ent.row (.slice yA y.length yC) 40 4 y.length (y.flatMap Test.enc)] [] rfl trivial (fun _ => x_callv (first := [pB p 0]) (caps := []) rfl Ty.ca66 rfl) (fun _ h => h) lown_mem (fun w hS => f66_ok p ws wsA wsC (j + 1) y yA yC y.length m w (wsR.on hS lown_mem) (hT.on hS lown_mem) hy_ hy_ hy_ hy_ hy_ (by exact hOr) (by omega) (hS.give lown_in)) ?_
   rintro _ _ ⟨y14, yA15, yC16, rfl, rfl, hf17, hf18, hf19, hf20, hf21⟩
   refine s_ (x_not rfl) (z_ (n_ ?_))
   refine if_ (fun h22 => ?_) (fun h22 => ?_)
   ·have h22w := h22
    have h22 : ((R40.partG ws (R40.orN ws m) (j + 1)).ok) = false := bnot_true h22
    refine q_ (g_ (s_ av_ (z_ (n_ (rt_ (nr_ (kq_ (rr_ (kq_ (nr_ ?_))))))))))
    first
     | have hE : (R40.andG ws (R40.orN ws m) i) = _ := R40.chain_no (pf := R40.partG ws (R40.orN ws m)) (w := R40.wAND) (k := 5) (by assumption)
     | have hE : (R40.andG ws (R40.orN ws m) i) = _ := R40.chain_bad i1_0 (by omega) (by assumption) (by assumption)
     | have hE : (R40.andG ws (R40.orN ws m) i) = _ := R40.chain_done i1_0 (by assumption)
    refine JX_rets [_] _ Tryz.results45 (fun w h => ⟨rfl, trivial⟩) rfl _ (fun _ h => h) ⟨y14, yA15, yC16, ?_, ?_, ?_, ?_, ?_, ?_, ?_⟩
    ·have e_x0 : (false : Bool) = ((R40.andG ws (R40.orN ws m) i).ok) := by first | rfl | (rw [hE]; done)
     exact congrArg (fun (x0 : Bool) => vB x0) e_x0
    ·have e_y0 : ((R40.partG ws (R40.orN ws m) (j + 1)).pos : Nat) = (R40.andG ws (R40.orN ws m) i).pos := by
      first | rfl | (rw [hE]; done)
     have e_all := (congrArg (fun (y0 : Nat) => [Ent.blk p 43 [vL wsA ws.length wsC, vI ((y0 : Nat) : Int), vL yA15 y14.length yC16], Ent.row (.slice yA15 y14.length yC16) 40 4 y14.length (y14.flatMap Test.enc)]) e_y0)
     exact e_all
    ·exact c40h0_
    ·(rw [hE]; dsimp only; omega)
    ·(rw [hE]; dsimp only; omega)
    ·exact c40h1_
    ·(rw [hE]; dsimp only; omega)
   ·have h22w := h22
    have h22 : ((R40.partG ws (R40.orN ws m) (j + 1)).ok) = true := bnot_false h22
    refine sk_ (n_ (g_ (s_ mv_ (s_ mv_ (s_ (x_nilCheck rfl) (s_ (fA 2 Ty.fi43_2) (r_ (ld_ 0 Ty.sc23) (s_ mv_ (js_ (vG [vI 5, vS [], vI 0, vI 0]) (x_build (by kernel_rfl)) (o_ (O_buildSlice (cs := [vI 5, vS [], vI 0, vI 0]) Tryz.underlying23 Ty.sz40 Ty.ze40 (by decide) (by decide) (by kernel_rfl) fun b23 => ?_)))))))))))
    refine o_ (O_append_f 2 Test.enc 4 y14 [(Test.mk 5 [] 0 0)] Tryz.underlying23 Ty.sz40 Ty.by40 Ty.ze40 rfl (by decide) rfl rfl rfl rfl Test.enc_len Test.enc_one (cells_blk 0 (off := 0) (m := 4) rfl rfl) lt_ lt_ fun A24 c25 => ?_)
    refine s_ (x_nilCheck rfl) (s_ (fA 2 Ty.fi43_2) (o_ (st1 1 Ty.sz23 ?_)))
    refine z_ (kx_ ?_)
    refine JX_round (((R40.partG ws (R40.orN ws m) (j + 1)).pos, y14 ++ [(Test.mk 5 [] 0 0)], A24, c25, n - 1, (T ++ (R40.partG ws (R40.orN ws m) (j + 1)).out ++ [R40.bare 5])) : Nat × (List Test) × (Option Addr) × Nat × Nat × (List Test)) ?_ ?_ ⟨rfl, rfl, rfl, rfl, trivial⟩ (fun _ h => h.keep [false, true, true] rfl)
    ·try dsimp only
     refine ⟨?_, ?_, ?_, ?_, ?_, ?_⟩
     ·exact R40.chain_step i1_0 (by omega) (by assumption) (by assumption)
     ·rw [hf17 (by assumption), i1_1]; simp only [List.append_assoc]; rfl
     ·omega
     ·have hq := hf20 (by assumption); omega
     ·have hq := hf20 (by assumption); omega
     ·exact c40h3_
    ·try dsimp only
     have hq := hf20 (by assumption); omega
  ·have h13w := h13
   obtain rfl := hf12 (by assumption)
   refine J_exit (ne_ (re_ (kh_ (n_ (q_ ?_)))))
   refine g_ (s_ av_ (z_ (n_ (rt_ ?_))))
   first
    | have hE : (R40.andG ws (R40.orN ws m) i) = _ := R40.chain_no (pf := R40.partG ws (R40.orN ws m)) (w := R40.wAND) (k := 5) (by assumption)
    | have hE : (R40.andG ws (R40.orN ws m) i) = _ := R40.chain_bad i1_0 (by omega) (by assumption) (by assumption)
    | have hE : (R40.andG ws (R40.orN ws m) i) = _ := R40.chain_done i1_0 (by assumption)
   refine JX_rets [_] _ Tryz.results45 (fun w h => ⟨rfl, trivial⟩) rfl _ (fun _ h => h) ⟨y, yA, yC, ?_, ?_, ?_, ?_, ?_, ?_, ?_⟩
   ·have e_x0 : (true : Bool) = ((R40.andG ws (R40.orN ws m) i).ok) := by first | rfl | (rw [hE]; done)
    exact congrArg (fun (x0 : Bool) => vB x0) e_x0
   ·have e_y0 : (j : Nat) = (R40.andG ws (R40.orN ws m) i).pos := by
     first | rfl | (rw [hE]; done)
    have e_all := (congrArg (fun (y0 : Nat) => [Ent.blk p 43 [vL wsA ws.length wsC, vI ((y0 : Nat) : Int), vL yA y.length yC], Ent.row (.slice yA y.length yC) 40 4 y.length (y.flatMap Test.enc)]) e_y0)
    exact e_all
   ·exact c40h0_
   ·(rw [hE]; dsimp only; omega)
   ·(rw [hE]; dsimp only; omega)
   ·exact c40h1_
   ·(rw [hE]; dsimp only; omega)
set_option maxRecDepth 20000 in
theorem f46_ok (p : Nat) (ws : List Bytes) (wsA : Option Addr) (wsC : Nat) (i : Nat) (o : List Test) (oA : Option Addr) (oC : Nat) (oN : Nat) (m : Nat) (w : World) (wsR : RO (Lown [Ent.blk p 43 [vL wsA ws.length wsC, vI ((i : Nat) : Int), vL oA oN oC], Ent.row (.slice oA oN oC) 40 4 oN (o.flatMap Test.enc)]) w wsA (ws.map vS)) (hT : Tab (Lown [Ent.blk p 43 [vL wsA ws.length wsC, vI ((i : Nat) : Int), vL oA oN oC], Ent.row (.slice oA oN oC) 40 4 oN (o.flatMap Test.enc)]) w) (oQ : oN = o.length) (q0 : ws.length ≤ 1000000) (q1 : i ≤ ws.length) (q2 : o.length ≤ i) (q3 : ∀ k, (ws.getD k []).length ≤ 140737488355328) (hOr : OrOk m) (hm : ws.length - i ≤ m) (hg : Give (Lown [Ent.blk p 43 [vL wsA ws.length wsC, vI ((i : Nat) : Int), vL oA oN oC], Ent.row (.slice oA oN oC) 40 4 oN (o.flatMap Test.enc)]) w [Ent.blk p 43 [vL wsA ws.length wsC, vI ((i : Nat) : Int), vL oA oN oC], Ent.row (.slice oA oN oC) 40 4 oN (o.flatMap Test.enc)]) : Calls Tryz.prog 46 #[pB p 0] w (Gives (Lown [Ent.blk p 43 [vL wsA ws.length wsC, vI ((i : Nat) : Int), vL oA oN oC], Ent.row (.slice oA oN oC) 40 4 oN (o.flatMap Test.enc)]) w fun v L => ∃ y : List Test, ∃ yA : Option Addr, ∃ yC : Nat, v = vB ((R40.andG ws (R40.orN ws m) i).ok) ∧ L = [Ent.blk p 43 [vL wsA ws.length wsC, vI (((R40.andG ws (R40.orN ws m) i).pos : Nat) : Int), vL yA y.length yC], Ent.row (.slice yA y.length yC) 40 4 y.length (y.flatMap Test.enc)] ∧ ((R40.andG ws (R40.orN ws m) i).ok = true → y = o ++ (R40.andG ws (R40.orN ws m) i).out) ∧ (y.length + i ≤ o.length + (R40.andG ws (R40.orN ws m) i).pos) ∧ ((R40.andG ws (R40.orN ws m) i).pos ≤ ws.length) ∧ ((R40.andG ws (R40.orN ws m) i).ok = true → i < (R40.andG ws (R40.orN ws m) i).pos) ∧ (i ≤ (R40.andG ws (R40.orN ws m) i).pos)) := by
 subst oQ
 refine calls_J (Lown [Ent.blk p 43 [vL wsA ws.length wsC, vI ((i : Nat) : Int), vL oA o.length oC], Ent.row (.slice oA o.length oC) 40 4 o.length (o.flatMap Test.enc)]) 7 Tryz.func46 rfl Tryz.ntmps46 [(0, _)] rfl rfl hg ?_
 refine q_ (g_ (s_ av_ (z_ (n_ (q_ (g_ (s_ mv_ (s_ mv_ (js_ (Value.func (.func 66) #[pB p 0] #[]) (x_makeFunc rfl rfl) ?_)))))))))
 refine JO_call (Lown [Ent.blk p 43 [vL wsA ws.length wsC, vI ((i : Nat) : Int), vL oA o.length oC], Ent.row (.slice oA o.length oC) 40 4 o.length (o.flatMap Test.enc)]) [Ent.blk p 43 [vL wsA ws.length wsC, vI ((i : Nat) : Int), vL oA o.length oC], Ent.row (.slice oA o.length oC) 40 4 o.length (o.flatMap Test.enc)] [] rfl trivial (fun _ => x_call Ty.ca45 rfl) (fun _ h => h) lown_mem (fun w hS => fch_part p ws wsA wsC i o oA oC o.length m w (wsR.on hS lown_mem) (hT.on hS lown_mem) hy_ hy_ hy_ hy_ hy_ (by exact hOr) (by omega) (hS.give lown_in)) ?_
 rintro _ _ ⟨y1, yA2, yC3, rfl, rfl, hf4, hf5, hf6, hf7, hf8⟩
 refine s_ av_ (z_ (n_ (rt_ ?_)))
 refine JX_rets [_] _ Tryz.results46 (fun w h => ⟨rfl, trivial⟩) rfl _ (fun _ h => h) ⟨y1, yA2, yC3, ?_, ?_, ?_, ?_, ?_, ?_, ?_⟩
 ·rfl
 ·rfl
 ·assumption
 ·assumption
 ·assumption
 ·assumption
 ·assumption
set_option maxRecDepth 20000 in
theorem fch_and (p : Nat) (ws : List Bytes) (wsA : Option Addr) (wsC : Nat) (i : Nat) (o : List Test) (oA : Option Addr) (oC : Nat) (oN : Nat) (m : Nat) (w : World) (wsR : RO (Lown [Ent.blk p 43 [vL wsA ws.length wsC, vI ((i : Nat) : Int), vL oA oN oC], Ent.row (.slice oA oN oC) 40 4 oN (o.flatMap Test.enc)]) w wsA (ws.map vS)) (hT : Tab (Lown [Ent.blk p 43 [vL wsA ws.length wsC, vI ((i : Nat) : Int), vL oA oN oC], Ent.row (.slice oA oN oC) 40 4 oN (o.flatMap Test.enc)]) w) (oQ : oN = o.length) (q0 : ws.length ≤ 1000000) (q1 : i ≤ ws.length) (q2 : o.length ≤ i) (q3 : ∀ k, (ws.getD k []).length ≤ 140737488355328) (hOr : OrOk m) (hm : ws.length - i ≤ m) (hg : Give (Lown [Ent.blk p 43 [vL wsA ws.length wsC, vI ((i : Nat) : Int), vL oA oN oC], Ent.row (.slice oA oN oC) 40 4 oN (o.flatMap Test.enc)]) w [Ent.blk p 43 [vL wsA ws.length wsC, vI ((i : Nat) : Int), vL oA oN oC], Ent.row (.slice oA oN oC) 40 4 oN (o.flatMap Test.enc)]) : Calls Tryz.prog 45 #[pB p 0, vS [111, 114], vI 6, Value.func (.func 46) #[pB p 0] #[]] w (Gives (Lown [Ent.blk p 43 [vL wsA ws.length wsC, vI ((i : Nat) : Int), vL oA oN oC], Ent.row (.slice oA oN oC) 40 4 oN (o.flatMap Test.enc)]) w fun v L => ∃ y : List Test, ∃ yA : Option Addr, ∃ yC : Nat, v = vB ((R40.orN ws (m + 1) i).ok) ∧ L = [Ent.blk p 43 [vL wsA ws.length wsC, vI (((R40.orN ws (m + 1) i).pos : Nat) : Int), vL yA y.length yC], Ent.row (.slice yA y.length yC) 40 4 y.length (y.flatMap Test.enc)] ∧ ((R40.orN ws (m + 1) i).ok = true → y = o ++ (R40.orN ws (m + 1) i).out) ∧ (y.length + i ≤ o.length + (R40.orN ws (m + 1) i).pos) ∧ ((R40.orN ws (m + 1) i).pos ≤ ws.length) ∧ ((R40.orN ws (m + 1) i).ok = true → i < (R40.orN ws (m + 1) i).pos) ∧ (i ≤ (R40.orN ws (m + 1) i).pos)) := by
 subst oQ
 refine calls_J (Lown [Ent.blk p 43 [vL wsA ws.length wsC, vI ((i : Nat) : Int), vL oA o.length oC], Ent.row (.slice oA o.length oC) 40 4 o.length (o.flatMap Test.enc)]) 29 Tryz.func45 rfl Tryz.ntmps45 [(0, _), (1, _), (2, _), (3, _)] rfl rfl hg ?_
 refine q_ (g_ (s_ av_ (z_ (n_ (q_ (q_ (g_ (s_ mv_ ?_))))))))
 refine JO_call (Lown [Ent.blk p 43 [vL wsA ws.length wsC, vI ((i : Nat) : Int), vL oA o.length oC], Ent.row (.slice oA o.length oC) 40 4 o.length (o.flatMap Test.enc)]) [Ent.blk p 43 [vL wsA ws.length wsC, vI ((i : Nat) : Int), vL oA o.length oC], Ent.row (.slice oA o.length oC) 40 4 o.length (o.flatMap Test.enc)] [] rfl trivial (fun _ => x_callv (first := [pB p 0]) (caps := []) rfl Ty.ca46 rfl) (fun _ h => h) lown_mem (fun w hS => f46_ok p ws wsA wsC i o oA oC o.length m w (wsR.on hS lown_mem) (hT.on hS lown_mem) hy_ hy_ hy_ hy_ hy_ (by exact hOr) (by omega) (hS.give lown_in)) ?_
 rintro _ _ ⟨y1, yA2, yC3, rfl, rfl, hf4, hf5, hf6, hf7, hf8⟩
 refine s_ (x_not rfl) (z_ (n_ ?_))
 refine if_ (fun h9 => ?_) (fun h9 => ?_)
 ·have h9w := h9
  have h9 : ((R40.andG ws (R40.orN ws m) i).ok) = false := bnot_true h9
  refine q_ (g_ (s_ av_ (z_ (n_ (rt_ (nr_ ?_))))))
  first
   | have hE : (R40.orN ws (m + 1) i) = _ := R40.chain_no (pf := R40.andG ws (R40.orN ws m)) (w := R40.wOR) (k := 6) (by assumption)
   | have hE : (R40.orN ws (m + 1) i) = _ := R40.chain_bad i1_0 (by omega) (by assumption) (by assumption)
   | have hE : (R40.orN ws (m + 1) i) = _ := R40.chain_done i1_0 (by assumption)
  refine JX_rets [_] _ Tryz.results45 (fun w h => ⟨rfl, trivial⟩) rfl _ (fun _ h => h) ⟨y1, yA2, yC3, ?_, ?_, ?_, ?_, ?_, ?_, ?_⟩
  ·have e_x0 : (false : Bool) = ((R40.orN ws (m + 1) i).ok) := by first | rfl | (rw [hE]; done)
   exact congrArg (fun (x0 : Bool) => vB x0) e_x0
  ·have e_y0 : ((R40.andG ws (R40.orN ws m) i).pos : Nat) = (R40.orN ws (m + 1) i).pos := by
    first | rfl | (rw [hE]; done)
   have e_all := (congrArg (fun (y0 : Nat) => [Ent.blk p 43 [vL wsA ws.length wsC, vI ((y0 : Nat) : Int), vL yA2 y1.length yC3], Ent.row (.slice yA2 y1.length yC3) 40 4 y1.length (y1.flatMap Test.enc)]) e_y0)
   exact e_all
  ·exact c40h0_
  ·(rw [hE]; dsimp only; omega)
  ·(rw [hE]; dsimp only; omega)
  ·exact c40h1_
  ·(rw [hE]; dsimp only; omega)
 ·have h9w := h9
  have h9 : ((R40.andG ws (R40.orN ws m) i).ok) = true := bnot_false h9
  refine sk_ (n_ (q_ (k_ ?_)))
  refine J_loop (X := Nat × (List Test) × (Option Addr) × Nat × Nat × (List Test)) (fun (⟨j, y, yA, yC, n, T⟩ : Nat × (List Test) × (Option Addr) × Nat × Nat × (List Test)) => (R40.chainL ws (R40.andG ws (R40.orN ws m)) R40.wOR 6 n ⟨true, j, T⟩ = (R40.orN ws (m + 1) i)) ∧ (y = o ++ T) ∧ (j ≤ ws.length) ∧ (ws.length < j + n) ∧ (i < j) ∧ (y.length + i ≤ o.length + j)) (fun (⟨j, y, yA, yC, n, T⟩ : Nat × (List Test) × (Option Addr) × Nat × Nat × (List Test)) => [(0, pB p 0), (1, vS [111, 114]), (2, vI 6), (3, Value.func (.func 46) #[pB p 0] #[])]) (fun (⟨j, y, yA, yC, n, T⟩ : Nat × (List Test) × (Option Addr) × Nat × Nat × (List Test)) => [Ent.blk p 43 [vL wsA ws.length wsC, vI ((j : Nat) : Int), vL yA y.length yC], Ent.row (.slice yA y.length yC) 40 4 y.length (y.flatMap Test.enc)]) (fun (⟨j, y, yA, yC, n, T⟩ : Nat × (List Test) × (Option Addr) × Nat × Nat × (List Test)) => ws.length - j) (((R40.andG ws (R40.orN ws m) i).pos, y1, yA2, yC3, ws.length + 1, (R40.andG ws (R40.orN ws m) i).out) : Nat × (List Test) × (Option Addr) × Nat × Nat × (List Test)) ?_ ⟨rfl, rfl, rfl, rfl, trivial⟩ (fun _ h => h) ?_
  ·try dsimp only
   refine ⟨?_, ?_, ?_, ?_, ?_, ?_⟩
   ·exact R40.chain_start (pf := R40.andG ws (R40.orN ws m)) (w := R40.wOR) (k := 6) (by assumption)
   ·exact hf4 (by assumption)
   ·omega
   ·omega
   ·have hq := hf7 (by assumption); omega
   ·omega
  rintro ⟨j, y, yA, yC, n, T⟩ hI1
  obtain ⟨i1_0, i1_1, i1_2, i1_3, i1_4, i1_5⟩ := hI1
  try dsimp only at i1_0
  try dsimp only at i1_1
  try dsimp only at i1_2
  try dsimp only at i1_3
  try dsimp only at i1_4
  try dsimp only at i1_5
  try dsimp only
  refine q_ (q_ (g_ (s_ mv_ (s_ mv_ ?_))))
  refine JO_call [p] [Ent.blk p 43 [vL wsA ws.length wsC, vI ((j : Nat) : Int), vL yA y.length yC]] [Ent.row (.slice yA y.length yC) 40 4 y.length (y.flatMap Test.enc)] rfl trivial (fun _ => x_call Ty.ca65 rfl) (fun _ h => h) (own_mem rfl) (fun w hS => f65_ok p ws wsA wsC j [111, 114] yA y.length yC w (wsR.on hS (own_mem rfl)) hy_ hy_ (hS.give (own_in rfl))) ?_
  rintro _ _ ⟨j10, rfl, rfl, hf11, hf12⟩
  try simp only [List.length_cons, List.length_nil, Nat.zero_add, Nat.reduceAdd] at hf11
  refine z_ (n_ ?_)
  refine if_ (fun h13 => ?_) (fun h13 => ?_)
  ·have h13w := h13
   obtain ⟨rfl, _⟩ := hf11 (by assumption)
   refine sk_ (n_ (k_ (q_ (q_ (g_ (s_ mv_ ?_))))))
   refine JO_call (Lown [Ent.blk p 43 [vL wsA ws.length wsC, vI (((j + 1) : Nat) : Int), vL yA y.length yC], Ent.row (.slice yA y.length yC) 40 4 y.length (y.flatMap Test.enc)]) [Ent.blk p 43 [vL wsA ws.length wsC, vI (((j + 1) : Nat) : Int), vL yA y.length yC], Ent.row (.slice yA y.length yC) 40 4 y.length (y.flatMap Test.enc)] [] rfl trivial (fun _ => x_callv (first := [pB p 0]) (caps := []) rfl Ty.ca46 rfl) (fun _ h => h) lown_mem (fun w hS => f46_ok p ws wsA wsC (j + 1) y yA yC y.length m w (wsR.on hS lown_mem) (hT.on hS lown_mem) hy_ hy_ hy_ hy_ hy_ (by exact hOr) (by omega) (hS.give lown_in)) ?_
   rintro _ _ ⟨y14, yA15, yC16, rfl, rfl, hf17, hf18, hf19, hf20, hf21⟩
   refine s_ (x_not rfl) (z_ (n_ ?_))
   refine if_ (fun h22 => ?_) (fun h22 => ?_)
   ·have h22w := h22
    have h22 : ((R40.andG ws (R40.orN ws m) (j + 1)).ok) = false := bnot_true h22
    refine q_ (g_ (s_ av_ (z_ (n_ (rt_ (nr_ (kq_ (rr_ (kq_ (nr_ ?_))))))))))
    first
     | have hE : (R40.orN ws (m + 1) i) = _ := R40.chain_no (pf := R40.andG ws (R40.orN ws m)) (w := R40.wOR) (k := 6) (by assumption)
     | have hE : (R40.orN ws (m + 1) i) = _ := R40.chain_bad i1_0 (by omega) (by assumption) (by assumption)
     | have hE : (R40.orN ws (m + 1) i) = _ := R40.chain_done i1_0 (by assumption)
    refine JX_rets [_] _ Tryz.results45 (fun w h => ⟨rfl, trivial⟩) rfl _ (fun _ h => h) ⟨y14, yA15, yC16, ?_, ?_, ?_, ?_, ?_, ?_, ?_⟩
    ·have e_x0 : (false : Bool) = ((R40.orN ws (m + 1) i).ok) := by first | rfl | (rw [hE]; done)
     exact congrArg (fun (x0 : Bool) => vB x0) e_x0
    ·have e_y0 : ((R40.andG ws (R40.orN ws m) (j + 1)).pos : Nat) = (R40.orN ws (m + 1) i).pos := by
      first | rfl | (rw [hE]; done)
     have e_all := (congrArg (fun (y0 : Nat) => [Ent.blk p 43 [vL wsA ws.length wsC, vI ((y0 : Nat) : Int), vL yA15 y14.length yC16], Ent.row (.slice yA15 y14.length yC16) 40 4 y14.length (y14.flatMap Test.enc)]) e_y0)
     exact e_all
    ·exact c40h0_
    ·(rw [hE]; dsimp only; omega)
    ·(rw [hE]; dsimp only; omega)
    ·exact c40h1_
    ·(rw [hE]; dsimp only; omega)
   ·have h22w := h22
    have h22 : ((R40.andG ws (R40.orN ws m) (j + 1)).ok) = true := bnot_false h22
    refine sk_ (n_ (g_ (s_ mv_ (s_ mv_ (s_ (x_nilCheck rfl) (s_ (fA 2 Ty.fi43_2) (r_ (ld_ 0 Ty.sc23) (s_ mv_ (js_ (vG [vI 6, vS [], vI 0, vI 0]) (x_build (by kernel_rfl)) (o_ (O_buildSlice (cs := [vI 6, vS [], vI 0, vI 0]) Tryz.underlying23 Ty.sz40 Ty.ze40 (by decide) (by decide) (by kernel_rfl) fun b23 => ?_)))))))))))
    refine o_ (O_append_f 2 Test.enc 4 y14 [(Test.mk 6 [] 0 0)] Tryz.underlying23 Ty.sz40 Ty.by40 Ty.ze40 rfl (by decide) rfl rfl rfl rfl Test.enc_len Test.enc_one (cells_blk 0 (off := 0) (m := 4) rfl rfl) lt_ lt_ fun A24 c25 => ?_)
    refine s_ (x_nilCheck rfl) (s_ (fA 2 Ty.fi43_2) (o_ (st1 1 Ty.sz23 ?_)))
    refine z_ (kx_ ?_)
    refine JX_round (((R40.andG ws (R40.orN ws m) (j + 1)).pos, y14 ++ [(Test.mk 6 [] 0 0)], A24, c25, n - 1, (T ++ (R40.andG ws (R40.orN ws m) (j + 1)).out ++ [R40.bare 6])) : Nat × (List Test) × (Option Addr) × Nat × Nat × (List Test)) ?_ ?_ ⟨rfl, rfl, rfl, rfl, trivial⟩ (fun _ h => h.keep [false, true, true] rfl)
    ·try dsimp only
     refine ⟨?_, ?_, ?_, ?_, ?_, ?_⟩
     ·exact R40.chain_step i1_0 (by omega) (by assumption) (by assumption)
     ·rw [hf17 (by assumption), i1_1]; simp only [List.append_assoc]; rfl
     ·omega
     ·have hq := hf20 (by assumption); omega
     ·have hq := hf20 (by assumption); omega
     ·exact c40h3_
    ·try dsimp only
     have hq := hf20 (by assumption); omega
  ·have h13w := h13
   obtain rfl := hf12 (by assumption)
   refine J_exit (ne_ (re_ (kh_ (n_ (q_ ?_)))))
   refine g_ (s_ av_ (z_ (n_ (rt_ ?_))))
   first
    | have hE : (R40.orN ws (m + 1) i) = _ := R40.chain_no (pf := R40.andG ws (R40.orN ws m)) (w := R40.wOR) (k := 6) (by assumption)
    | have hE : (R40.orN ws (m + 1) i) = _ := R40.chain_bad i1_0 (by omega) (by assumption) (by assumption)
    | have hE : (R40.orN ws (m + 1) i) = _ := R40.chain_done i1_0 (by assumption)
   refine JX_rets [_] _ Tryz.results45 (fun w h => ⟨rfl, trivial⟩) rfl _ (fun _ h => h) ⟨y, yA, yC, ?_, ?_, ?_, ?_, ?_, ?_, ?_⟩
   ·have e_x0 : (true : Bool) = ((R40.orN ws (m + 1) i).ok) := by first | rfl | (rw [hE]; done)
    exact congrArg (fun (x0 : Bool) => vB x0) e_x0
   ·have e_y0 : (j : Nat) = (R40.orN ws (m + 1) i).pos := by
     first | rfl | (rw [hE]; done)
    have e_all := (congrArg (fun (y0 : Nat) => [Ent.blk p 43 [vL wsA ws.length wsC, vI ((y0 : Nat) : Int), vL yA y.length yC], Ent.row (.slice yA y.length yC) 40 4 y.length (y.flatMap Test.enc)]) e_y0)
    exact e_all
   ·exact c40h0_
   ·(rw [hE]; dsimp only; omega)
   ·(rw [hE]; dsimp only; omega)
   ·exact c40h1_
   ·(rw [hE]; dsimp only; omega)
set_option maxRecDepth 20000 in
theorem f21_ok (p : Nat) (ws : List Bytes) (wsA : Option Addr) (wsC : Nat) (i : Nat) (o : List Test) (oA : Option Addr) (oC : Nat) (oN : Nat) (m : Nat) (w : World) (wsR : RO (Lown [Ent.blk p 43 [vL wsA ws.length wsC, vI ((i : Nat) : Int), vL oA oN oC], Ent.row (.slice oA oN oC) 40 4 oN (o.flatMap Test.enc)]) w wsA (ws.map vS)) (hT : Tab (Lown [Ent.blk p 43 [vL wsA ws.length wsC, vI ((i : Nat) : Int), vL oA oN oC], Ent.row (.slice oA oN oC) 40 4 oN (o.flatMap Test.enc)]) w) (oQ : oN = o.length) (q0 : ws.length ≤ 1000000) (q1 : i ≤ ws.length) (q2 : o.length ≤ i) (q3 : ∀ k, (ws.getD k []).length ≤ 140737488355328) (hOr : OrOk m) (hm : ws.length - i ≤ m) (hg : Give (Lown [Ent.blk p 43 [vL wsA ws.length wsC, vI ((i : Nat) : Int), vL oA oN oC], Ent.row (.slice oA oN oC) 40 4 oN (o.flatMap Test.enc)]) w [Ent.blk p 43 [vL wsA ws.length wsC, vI ((i : Nat) : Int), vL oA oN oC], Ent.row (.slice oA oN oC) 40 4 oN (o.flatMap Test.enc)]) : Calls Tryz.prog 21 #[pB p 0] w (Gives (Lown [Ent.blk p 43 [vL wsA ws.length wsC, vI ((i : Nat) : Int), vL oA oN oC], Ent.row (.slice oA oN oC) 40 4 oN (o.flatMap Test.enc)]) w fun v L => ∃ y : List Test, ∃ yA : Option Addr, ∃ yC : Nat, v = vB ((R40.orN ws (m + 1) i).ok) ∧ L = [Ent.blk p 43 [vL wsA ws.length wsC, vI (((R40.orN ws (m + 1) i).pos : Nat) : Int), vL yA y.length yC], Ent.row (.slice yA y.length yC) 40 4 y.length (y.flatMap Test.enc)] ∧ ((R40.orN ws (m + 1) i).ok = true → y = o ++ (R40.orN ws (m + 1) i).out) ∧ (y.length + i ≤ o.length + (R40.orN ws (m + 1) i).pos) ∧ ((R40.orN ws (m + 1) i).pos ≤ ws.length) ∧ ((R40.orN ws (m + 1) i).ok = true → i < (R40.orN ws (m + 1) i).pos) ∧ (i ≤ (R40.orN ws (m + 1) i).pos)) := by
 subst oQ
 refine calls_J (Lown [Ent.blk p 43 [vL wsA ws.length wsC, vI ((i : Nat) : Int), vL oA o.length oC], Ent.row (.slice oA o.length oC) 40 4 o.length (o.flatMap Test.enc)]) 7 Tryz.func21 rfl Tryz.ntmps21 [(0, _)] rfl rfl hg ?_
 refine q_ (g_ (s_ av_ (z_ (n_ (q_ (g_ (s_ mv_ (s_ mv_ (js_ (Value.func (.func 46) #[pB p 0] #[]) (x_makeFunc rfl rfl) ?_)))))))))
 refine JO_call (Lown [Ent.blk p 43 [vL wsA ws.length wsC, vI ((i : Nat) : Int), vL oA o.length oC], Ent.row (.slice oA o.length oC) 40 4 o.length (o.flatMap Test.enc)]) [Ent.blk p 43 [vL wsA ws.length wsC, vI ((i : Nat) : Int), vL oA o.length oC], Ent.row (.slice oA o.length oC) 40 4 o.length (o.flatMap Test.enc)] [] rfl trivial (fun _ => x_call Ty.ca45 rfl) (fun _ h => h) lown_mem (fun w hS => fch_and p ws wsA wsC i o oA oC o.length m w (wsR.on hS lown_mem) (hT.on hS lown_mem) hy_ hy_ hy_ hy_ hy_ (by exact hOr) (by omega) (hS.give lown_in)) ?_
 rintro _ _ ⟨y1, yA2, yC3, rfl, rfl, hf4, hf5, hf6, hf7, hf8⟩
 refine s_ av_ (z_ (n_ (rt_ ?_)))
 refine JX_rets [_] _ Tryz.results21 (fun w h => ⟨rfl, trivial⟩) rfl _ (fun _ h => h) ⟨y1, yA2, yC3, ?_, ?_, ?_, ?_, ?_, ?_, ?_⟩
 ·rfl
 ·rfl
 ·assumption
 ·assumption
 ·assumption
 ·assumption
 ·assumption
theorem or_all : ∀ m, OrOk m
 | 0 => fun p ws wsA wsC i o oA oC oN w wsR hT oQ q0 q1 q2 q3 hg h => absurd h (Nat.not_lt_zero _)
 | m + 1 => fun p ws wsA wsC i o oA oC oN w wsR hT oQ q0 q1 q2 q3 hg h => f21_ok p ws wsA wsC i o oA oC oN m w wsR hT oQ q0 q1 q2 q3 (or_all m) (Nat.le_of_lt_succ h) hg
end Go.Proofs.YtngjdmhpljmkpaaGreatDoor

namespace Go.Proofs.YtngjdmhpljmkpaaGreatDoor
open Go.GV
namespace Ty
theorem mtd : 0 < Tryz.prog.types.size + Made.depth := of_decide_eq_true (by kernel_rfl)
theorem mt152 : methIs Tryz.prog 64 "dasd/condition.strength" = some 152 := by kernel_rfl
theorem mt153 : methIs Tryz.prog 85 "dasd/condition.strength" = some 153 := by kernel_rfl
theorem mt56 : methIs Tryz.prog 87 "dasd/condition.strength" = some 56 := by kernel_rfl
end Ty
end Go.Proofs.YtngjdmhpljmkpaaGreatDoor
