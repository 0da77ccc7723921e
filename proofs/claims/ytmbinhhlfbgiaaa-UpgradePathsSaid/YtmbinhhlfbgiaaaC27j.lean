/- contracts C27j -/
import Derived.Test.YtmbinhhlfbgiaaaC27i
import Derived.Test.YtmbinhhlfbgiaaaPl27b
import Derived.Test.YtmbinhhlfbgiaaaGvK
namespace Go.Proofs.Ytmbinhhlfbgiaaa
open Go.GV
set_option linter.unusedVariables false
set_option linter.unusedSimpArgs false
set_option maxRecDepth 20000 in
theorem f82_ok (l : List Pair) (lA : Option Addr) (lC : Nat) (x : Pair) (e : Bool) (w : World) (lR : RO [] w lA (l.flatMap Pair.enc)) (q0 : l.length ≤ 1000) : Calls Try.prog 82 #[Value.slice lA l.length lC, Value.agg #[vS x.key, vS x.record], vB e] w (Gives [] w fun v L => ∃ A : Option Addr, ∃ cc : Nat, v = Value.slice A ((R27.setP l x e).length) cc ∧ L = [Ent.row (.slice A (R27.setP l x e).length cc) 53 2 (R27.setP l x e).length ((R27.setP l x e).flatMap Pair.enc)]) := by
 refine calls_J [] 56 Try.func82 rfl Try.ntmps82 [(0, Value.slice lA l.length lC), (1, Value.agg #[vS x.key, vS x.record]), (2, vB e)] rfl rfl (Give.nil w) ?_
 refine J_seq (J_region ?_)
 refine JO_op rfl trivial (O_box rfl rfl fun b1 => ?_)
 refine jr_ (Value.slice none 0 0) ?_
 refine JO_nil (JX_then (J_seq (J_region ?_)))
 refine JO_op rfl trivial (O_buildSlice0 Try.underlying50 Ty.sz53 fun b2 => ?_)
 refine jr_ (Value.slice (some ⟨b2, 0, none⟩) 0 0) ?_
 refine JO_nil (JX_then (J_seq (J_region ?_)))
 refine jr_ (vB e) ?_
 refine jr_ (vB e) ?_
 refine JO_nil (JX_then (J_seq (J_seq (J_region ?_))))
 refine jr_ (vI 0) ?_
 refine JO_nil (JX_then (J_block ?_))
 refine J_loop (X := Nat × (List Pair) × (Option Addr) × Nat × Bool) (fun (⟨k, o, oA, oC, d⟩ : Nat × (List Pair) × (Option Addr) × Nat × Bool) => (k ≤ l.length) ∧ ((o, d) = R27.setGo x e (l.take k)) ∧ (o.length ≤ 2 * k)) (fun (⟨k, o, oA, oC, d⟩ : Nat × (List Pair) × (Option Addr) × Nat × Bool) => [(0, Value.slice lA l.length lC), (4, Value.pointer (some ⟨b1, 0, none⟩)), (6, Value.slice none 0 0), (7, Value.slice oA o.length oC), (8, vB d), (9, vI ((k : Nat) : Int))]) (fun (⟨k, o, oA, oC, d⟩ : Nat × (List Pair) × (Option Addr) × Nat × Bool) => [Ent.blk b1 53 [vS x.key, vS x.record], Ent.row (.slice oA o.length oC) 53 2 o.length (o.flatMap Pair.enc)]) (fun (⟨k, o, oA, oC, d⟩ : Nat × (List Pair) × (Option Addr) × Nat × Bool) => l.length - k) ((0, ([] : List Pair), (some ⟨b2, 0, none⟩), 0, e) : Nat × (List Pair) × (Option Addr) × Nat × Bool) ?_ ⟨rfl, rfl, rfl, rfl, rfl, rfl, trivial⟩ (fun _ h => ((St.torow (cs := []) h 2 0 rfl (by decide)).front 1 _ rfl).keep [true, true] rfl) ?_
 ·show (0 ≤ l.length) ∧ ((([] : List Pair), e) = R27.setGo x e (l.take 0)) ∧ (([] : List Pair).length ≤ 2 * 0)
  refine ⟨?_, ?_, ?_⟩
  ·first | rfl | omega | (simp_all; done) | (simp_all; omega)
  ·rfl
  ·exact Nat.le_refl _
 rintro ⟨k, o, oA, oC, d⟩ hI1
 obtain ⟨i1_0, i1_1, i1_2⟩ : (k ≤ l.length) ∧ ((o, d) = R27.setGo x e (l.take k)) ∧ (o.length ≤ 2 * k) := hI1
 refine J_weaken (E' := [(0, Value.slice lA l.length lC), (4, Value.pointer (some ⟨b1, 0, none⟩)), (6, Value.slice none 0 0), (7, Value.slice oA o.length oC), (8, vB d), (9, vI ((k : Nat) : Int))]) (L' := [Ent.blk b1 53 [vS x.key, vS x.record], Ent.row (.slice oA o.length oC) 53 2 o.length (o.flatMap Pair.enc)]) ⟨rfl, rfl, rfl, rfl, rfl, rfl, trivial⟩ (fun _ h => h) ?_
 refine J_seq (J_seq (J_region ?_))
 refine jr_ (vI ((k : Nat) : Int)) ?_
 refine jr_ (Value.slice lA l.length lC) ?_
 refine js_ (vI ((l.length : Nat) : Int)) (x_len_sl Try.underlying50 rfl) ?_
 refine js_ (vB (decide (((k : Nat) : Int) < ((l.length : Nat) : Int)))) (x_lss_i rfl rfl) ?_
 refine JO_nil (JX_then ?_)
 refine J_cond (decide (((k : Nat) : Int) < ((l.length : Nat) : Int))) rfl rfl (fun h3 => ?_) (fun h3 => ?_)
 ·have h3w := h3
  have h3 := of_decide_eq_true h3
  refine J_skip (JX_then (J_seq (J_block (J_seq (J_seq ?_)))))
  refine J_draw [Ent.blk b1 53 [vS x.key, vS x.record], Ent.row (.slice oA o.length oC) 53 2 o.length (o.flatMap Pair.enc)] [] [Ent.blk b1 53 [vS x.key, vS x.record], Ent.row (.slice oA o.length oC) 53 2 o.length (o.flatMap Pair.enc)] 12 Ty.mixed rfl ?_
  refine jt_ 0 (vB d) rfl (fun _ _ => rfl) ?_
  refine jt_ 1 (vB (!d)) rfl (fun _ _ => x_not rfl) ?_
  refine jt_ 2 (vB (!d)) rfl (fun _ _ => rfl) ?_
  refine JA_bool (!d) [(0, Value.slice lA l.length lC), (4, Value.pointer (some ⟨b1, 0, none⟩)), (6, Value.slice none 0 0), (7, Value.slice oA o.length oC), (8, vB d), (9, vI ((k : Nat) : Int)), (12, vI ((k : Nat) : Int)), (13, Value.slice lA l.length lC), (14, vI ((l.length : Nat) : Int)), (15, vB (decide (((k : Nat) : Int) < ((l.length : Nat) : Int)))), (18, vB d), (19, vB (!d)), (20, vB true)] [(0, Value.slice lA l.length lC), (4, Value.pointer (some ⟨b1, 0, none⟩)), (6, Value.slice none 0 0), (7, Value.slice oA o.length oC), (8, vB d), (9, vI ((k : Nat) : Int)), (12, vI ((k : Nat) : Int)), (13, Value.slice lA l.length lC), (14, vI ((l.length : Nat) : Int)), (15, vB (decide (((k : Nat) : Int) < ((l.length : Nat) : Int)))), (18, vB d), (19, vB (!d)), (20, vB false)] (fun hb => ⟨rfl, rfl, rfl, rfl, rfl, rfl, rfl, rfl, rfl, rfl, rfl, rfl, congrArg (fun b => some (vB b)) hb, trivial⟩) (fun hb => ⟨rfl, rfl, rfl, rfl, rfl, rfl, rfl, rfl, rfl, rfl, rfl, rfl, congrArg (fun b => some (vB b)) hb, trivial⟩) (fun h4 => ?_) (fun h4 => ?_)
  ·have h4 : (d) = false := bnot_true h4
   refine JA_take 3 (Value.slice lA l.length lC) rfl (by kernel_rfl) (by kernel_rfl) (by kernel_rfl) rfl (fun _ _ _ h => h) rfl ⟨_, rfl, rfl⟩ (fun _ _ => rfl) ?_
   refine JA_take 4 (vI ((k : Nat) : Int)) rfl (by kernel_rfl) (by kernel_rfl) (by kernel_rfl) rfl (fun _ _ _ h => h) rfl ⟨_, rfl, rfl⟩ (fun _ _ => rfl) ?_
   refine JA_take 5 (Value.pointer (some (adr lA (k * 2)))) rfl (by kernel_rfl) (by kernel_rfl) (by kernel_rfl) rfl (fun _ _ _ h => h) rfl ⟨_, rfl, rfl⟩ (x_indexAddr_at (k := k) (off := k * 2) (cells_ro lR) Try.underlying50 Ty.sz53 rfl rfl lt_ (by rw [flat_length Pair.enc 2 Pair.enc_len]; first | omega | (simp; omega) | (simp_all; omega) | (simp_all; done)) rfl) ?_
   refine JA_take 6 (Value.pointer (some (adr lA (k * 2)))) rfl (by kernel_rfl) (by kernel_rfl) (by kernel_rfl) rfl (fun _ _ _ h => h) rfl ⟨_, rfl, rfl⟩ (fun _ _ => x_fieldAddr Ty.fi53_0 rfl rfl) ?_
   refine JA_take 7 (vS ((l.getD k default).key)) rfl (by kernel_rfl) (by kernel_rfl) (by kernel_rfl) rfl (fun _ _ _ h => h) rfl ⟨_, rfl, rfl⟩ (x_load_at (cells_ro lR) rfl Ty.sc9 (flat_at Pair.enc 2 Pair.enc_len l default k 0 lt_ (by decide))) ?_
   refine JA_take 8 (Value.pointer (some ⟨b1, 0, none⟩)) rfl (by kernel_rfl) (by kernel_rfl) (by kernel_rfl) rfl (fun _ _ _ h => h) rfl ⟨_, rfl, rfl⟩ (fun _ _ => x_fieldAddr Ty.fi53_0 rfl rfl) ?_
   refine JA_take 9 (vS x.key) rfl (by kernel_rfl) (by kernel_rfl) (by kernel_rfl) rfl (fun _ _ _ h => h) rfl ⟨_, rfl, rfl⟩ (x_load 0 rfl rfl Ty.sc9 rfl) ?_
   refine JA_take 10 (vB (!(Op.bytesLess ((l.getD k default).key) x.key))) rfl (by kernel_rfl) (by kernel_rfl) (by kernel_rfl) rfl (fun _ _ _ h => h) rfl ⟨_, rfl, rfl⟩ (fun _ _ => x_geq_s rfl rfl) ?_
   refine jt_ 11 (vB (!(Op.bytesLess ((l.getD k default).key) x.key))) rfl (fun _ _ => rfl) ?_
   refine JA_done (by kernel_rfl) (fun _ h => ⟨h, fun _ => h⟩) ?_
   refine JX_then ?_
   refine J_cond (!(Op.bytesLess ((l.getD k default).key) x.key)) rfl rfl (fun h5 => ?_) (fun h5 => ?_)
   ·have h5w := h5
    have h5 : (Op.bytesLess ((l.getD k default).key) x.key) = false := bnot_true h5
    refine J_region ?_
    refine jr_ (Value.slice oA o.length oC) ?_
    refine JO_read (Value.agg #[vS x.key, vS x.record]) rfl trivial (x_loadN 0 [vS x.key, vS x.record] rfl rfl Ty.ag53 Ty.sz53 rfl) ?_
    refine JO_op rfl trivial (O_buildSlice (cs := [vS x.key, vS x.record]) Try.underlying50 Ty.sz53 Ty.ze53 (by decide) (by decide) (by kernel_rfl) fun b6 => ?_)
    refine JO_op rfl trivial (O_append_f 2 Pair.enc 2 o [x] Try.underlying50 Ty.sz53 Ty.by53 Ty.ze53 rfl (by decide) rfl rfl rfl rfl Pair.enc_len Pair.enc_one (cells_blk 0 (off := 0) (m := 2) rfl rfl) lt_ lt_ fun A7 c8 => ?_)
    refine jr_ (Value.slice A7 ((o ++ [x]).length) c8) ?_
    refine jr_ (vB true) ?_
    refine JO_nil (JX_then (J_seq ?_))
    refine J_draw [Ent.blk b6 53 [vS x.key, vS x.record], Ent.blk b1 53 [vS x.key, vS x.record], Ent.row (.slice A7 (o ++ [x]).length c8) 53 2 (o ++ [x]).length ((o ++ [x]).flatMap Pair.enc)] [] [Ent.blk b6 53 [vS x.key, vS x.record], Ent.blk b1 53 [vS x.key, vS x.record], Ent.row (.slice A7 (o ++ [x]).length c8) 53 2 (o ++ [x]).length ((o ++ [x]).flatMap Pair.enc)] 8 Ty.mixed rfl ?_
    refine jt_ 0 (Value.slice lA l.length lC) rfl (fun _ _ => rfl) ?_
    refine jt_ 1 (vI ((k : Nat) : Int)) rfl (fun _ _ => rfl) ?_
    refine jt_ 2 (Value.pointer (some (adr lA (k * 2)))) rfl (x_indexAddr_at (k := k) (off := k * 2) (cells_ro lR) Try.underlying50 Ty.sz53 rfl rfl lt_ (by rw [flat_length Pair.enc 2 Pair.enc_len]; first | omega | (simp; omega) | (simp_all; omega) | (simp_all; done)) rfl) ?_
    refine jt_ 3 (Value.pointer (some (adr lA (k * 2)))) rfl (fun _ _ => x_fieldAddr Ty.fi53_0 rfl rfl) ?_
    refine jt_ 4 (vS ((l.getD k default).key)) rfl (x_load_at (cells_ro lR) rfl Ty.sc9 (flat_at Pair.enc 2 Pair.enc_len l default k 0 lt_ (by decide))) ?_
    refine jt_ 5 (Value.pointer (some ⟨b1, 0, none⟩)) rfl (fun _ _ => x_fieldAddr Ty.fi53_0 rfl rfl) ?_
    refine jt_ 6 (vS x.key) rfl (x_load 1 rfl rfl Ty.sc9 rfl) ?_
    refine jt_ 7 (vB (decide ((l.getD k default).key ≠ x.key))) rfl (fun _ _ => x_neq_s rfl rfl) ?_
    refine JA_done (by kernel_rfl) (fun _ h => ⟨h, fun _ => h⟩) ?_
    refine JX_then ?_
    refine J_cond (decide ((l.getD k default).key ≠ x.key)) rfl rfl (fun h9 => ?_) (fun h9 => ?_)
    ·have h9w := h9
     have h9 := of_decide_eq_true h9
     refine J_region ?_
     refine jr_ (Value.slice A7 ((o ++ [x]).length) c8) ?_
     refine jr_ (Value.slice lA l.length lC) ?_
     refine jr_ (vI ((k : Nat) : Int)) ?_
     refine JO_read (Value.pointer (some (adr lA (k * 2)))) rfl trivial (x_indexAddr_at (k := k) (off := k * 2) (cells_ro lR) Try.underlying50 Ty.sz53 rfl rfl lt_ (by rw [flat_length Pair.enc 2 Pair.enc_len]; first | omega | (simp; omega) | (simp_all; omega) | (simp_all; done)) rfl) ?_
     refine JO_read (Value.agg #[vS ((l.getD k default).key), vS ((l.getD k default).record)]) rfl trivial (x_loadN_at [vS ((l.getD k default).key), vS ((l.getD k default).record)] (cells_ro lR) rfl Ty.ag53 Ty.sz53 (flat_drop Pair.enc 2 Pair.enc_len l default k lt_)) ?_
     refine JO_op rfl trivial (O_buildSlice (cs := [vS ((l.getD k default).key), vS ((l.getD k default).record)]) Try.underlying50 Ty.sz53 Ty.ze53 (by decide) (by decide) (by kernel_rfl) fun b10 => ?_)
     refine JO_op rfl trivial (O_append_f 3 Pair.enc 2 (o ++ [x]) [(l.getD k default)] Try.underlying50 Ty.sz53 Ty.by53 Ty.ze53 rfl (by decide) rfl rfl rfl rfl Pair.enc_len Pair.enc_one (cells_blk 0 (off := 0) (m := 2) rfl rfl) lt_ lt_ fun A11 c12 => ?_)
     refine jr_ (Value.slice A11 (((o ++ [x]) ++ [(l.getD k default)]).length) c12) ?_
     refine JO_nil (JX_block (JX_then (J_region ?_)))
     refine jr_ (vI ((k : Nat) : Int)) ?_
     refine js_ (vI ((k + 1 : Nat) : Int)) (x_add_n (a := k) (b := 1) rfl rfl (by omega)) ?_
     refine jr_ (vI ((k + 1 : Nat) : Int)) ?_
     refine JO_nil ?_
     refine JX_round ((k + 1, (o ++ [x]) ++ [(l.getD k default)], A11, c12, true) : Nat × (List Pair) × (Option Addr) × Nat × Bool) ?_ ?_ ⟨rfl, rfl, rfl, rfl, rfl, rfl, trivial⟩ (fun _ h => h.keep [false, false, true, true] rfl)
     ·show ((k + 1) ≤ l.length) ∧ ((((o ++ [x]) ++ [(l.getD k default)]), true) = R27.setGo x e (l.take (k + 1))) ∧ (((o ++ [x]) ++ [(l.getD k default)]).length ≤ 2 * (k + 1))
      refine ⟨?_, ?_, ?_⟩
      ·first | rfl | omega | (simp_all; done) | (simp_all; omega)
      ·first
        | exact R27.set_in_in (by omega) i1_1 (by first | exact R27.nin (by assumption) (by assumption) | exact R27.nout1 (by assumption) | exact R27.nout2 (by assumption)) (by assumption)
        | exact R27.set_in_no (by omega) i1_1 (by first | exact R27.nin (by assumption) (by assumption) | exact R27.nout1 (by assumption) | exact R27.nout2 (by assumption)) (by assumption)
        | exact R27.set_no_in (by omega) i1_1 (by first | exact R27.nin (by assumption) (by assumption) | exact R27.nout1 (by assumption) | exact R27.nout2 (by assumption)) (by assumption)
        | exact R27.set_no_no (by omega) i1_1 (by first | exact R27.nin (by assumption) (by assumption) | exact R27.nout1 (by assumption) | exact R27.nout2 (by assumption)) (by assumption)
      ·(try simp only [List.length_append, List.length_cons, List.length_nil]); omega
     ·show l.length - (k + 1) < l.length - k
      first | omega | (simp; omega) | (simp_all; omega)
    ·have h9w := h9
     have h9 := of_decide_eq_false h9
     refine J_skip (JX_block (JX_then (J_region ?_)))
     refine jr_ (vI ((k : Nat) : Int)) ?_
     refine js_ (vI ((k + 1 : Nat) : Int)) (x_add_n (a := k) (b := 1) rfl rfl (by omega)) ?_
     refine jr_ (vI ((k + 1 : Nat) : Int)) ?_
     refine JO_nil ?_
     refine JX_round ((k + 1, o ++ [x], A7, c8, true) : Nat × (List Pair) × (Option Addr) × Nat × Bool) ?_ ?_ ⟨rfl, rfl, rfl, rfl, rfl, rfl, trivial⟩ (fun _ h => h.keep [false, true, true] rfl)
     ·show ((k + 1) ≤ l.length) ∧ (((o ++ [x]), true) = R27.setGo x e (l.take (k + 1))) ∧ ((o ++ [x]).length ≤ 2 * (k + 1))
      refine ⟨?_, ?_, ?_⟩
      ·first | rfl | omega | (simp_all; done) | (simp_all; omega)
      ·first
        | exact R27.set_in_in (by omega) i1_1 (by first | exact R27.nin (by assumption) (by assumption) | exact R27.nout1 (by assumption) | exact R27.nout2 (by assumption)) (by assumption)
        | exact R27.set_in_no (by omega) i1_1 (by first | exact R27.nin (by assumption) (by assumption) | exact R27.nout1 (by assumption) | exact R27.nout2 (by assumption)) (by assumption)
        | exact R27.set_no_in (by omega) i1_1 (by first | exact R27.nin (by assumption) (by assumption) | exact R27.nout1 (by assumption) | exact R27.nout2 (by assumption)) (by assumption)
        | exact R27.set_no_no (by omega) i1_1 (by first | exact R27.nin (by assumption) (by assumption) | exact R27.nout1 (by assumption) | exact R27.nout2 (by assumption)) (by assumption)
      ·(try simp only [List.length_append, List.length_cons, List.length_nil]); omega
     ·show l.length - (k + 1) < l.length - k
      first | omega | (simp; omega) | (simp_all; omega)
   ·have h5w := h5
    have h5 : (Op.bytesLess ((l.getD k default).key) x.key) = true := bnot_false h5
    refine J_skip (JX_then (J_seq ?_))
    refine J_draw [Ent.blk b1 53 [vS x.key, vS x.record], Ent.row (.slice oA o.length oC) 53 2 o.length (o.flatMap Pair.enc)] [] [Ent.blk b1 53 [vS x.key, vS x.record], Ent.row (.slice oA o.length oC) 53 2 o.length (o.flatMap Pair.enc)] 8 Ty.mixed rfl ?_
    refine jt_ 0 (Value.slice lA l.length lC) rfl (fun _ _ => rfl) ?_
    refine jt_ 1 (vI ((k : Nat) : Int)) rfl (fun _ _ => rfl) ?_
    refine jt_ 2 (Value.pointer (some (adr lA (k * 2)))) rfl (x_indexAddr_at (k := k) (off := k * 2) (cells_ro lR) Try.underlying50 Ty.sz53 rfl rfl lt_ (by rw [flat_length Pair.enc 2 Pair.enc_len]; first | omega | (simp; omega) | (simp_all; omega) | (simp_all; done)) rfl) ?_
    refine jt_ 3 (Value.pointer (some (adr lA (k * 2)))) rfl (fun _ _ => x_fieldAddr Ty.fi53_0 rfl rfl) ?_
    refine jt_ 4 (vS ((l.getD k default).key)) rfl (x_load_at (cells_ro lR) rfl Ty.sc9 (flat_at Pair.enc 2 Pair.enc_len l default k 0 lt_ (by decide))) ?_
    refine jt_ 5 (Value.pointer (some ⟨b1, 0, none⟩)) rfl (fun _ _ => x_fieldAddr Ty.fi53_0 rfl rfl) ?_
    refine jt_ 6 (vS x.key) rfl (x_load 0 rfl rfl Ty.sc9 rfl) ?_
    refine jt_ 7 (vB (decide ((l.getD k default).key ≠ x.key))) rfl (fun _ _ => x_neq_s rfl rfl) ?_
    refine JA_done (by kernel_rfl) (fun _ h => ⟨h, fun _ => h⟩) ?_
    refine JX_then ?_
    refine J_cond (decide ((l.getD k default).key ≠ x.key)) rfl rfl (fun h13 => ?_) (fun h13 => ?_)
    ·have h13w := h13
     have h13 := of_decide_eq_true h13
     refine J_region ?_
     refine jr_ (Value.slice oA o.length oC) ?_
     refine jr_ (Value.slice lA l.length lC) ?_
     refine jr_ (vI ((k : Nat) : Int)) ?_
     refine JO_read (Value.pointer (some (adr lA (k * 2)))) rfl trivial (x_indexAddr_at (k := k) (off := k * 2) (cells_ro lR) Try.underlying50 Ty.sz53 rfl rfl lt_ (by rw [flat_length Pair.enc 2 Pair.enc_len]; first | omega | (simp; omega) | (simp_all; omega) | (simp_all; done)) rfl) ?_
     refine JO_read (Value.agg #[vS ((l.getD k default).key), vS ((l.getD k default).record)]) rfl trivial (x_loadN_at [vS ((l.getD k default).key), vS ((l.getD k default).record)] (cells_ro lR) rfl Ty.ag53 Ty.sz53 (flat_drop Pair.enc 2 Pair.enc_len l default k lt_)) ?_
     refine JO_op rfl trivial (O_buildSlice (cs := [vS ((l.getD k default).key), vS ((l.getD k default).record)]) Try.underlying50 Ty.sz53 Ty.ze53 (by decide) (by decide) (by kernel_rfl) fun b14 => ?_)
     refine JO_op rfl trivial (O_append_f 2 Pair.enc 2 o [(l.getD k default)] Try.underlying50 Ty.sz53 Ty.by53 Ty.ze53 rfl (by decide) rfl rfl rfl rfl Pair.enc_len Pair.enc_one (cells_blk 0 (off := 0) (m := 2) rfl rfl) lt_ lt_ fun A15 c16 => ?_)
     refine jr_ (Value.slice A15 ((o ++ [(l.getD k default)]).length) c16) ?_
     refine JO_nil (JX_block (JX_then (J_region ?_)))
     refine jr_ (vI ((k : Nat) : Int)) ?_
     refine js_ (vI ((k + 1 : Nat) : Int)) (x_add_n (a := k) (b := 1) rfl rfl (by omega)) ?_
     refine jr_ (vI ((k + 1 : Nat) : Int)) ?_
     refine JO_nil ?_
     refine JX_round ((k + 1, o ++ [(l.getD k default)], A15, c16, d) : Nat × (List Pair) × (Option Addr) × Nat × Bool) ?_ ?_ ⟨rfl, rfl, rfl, rfl, rfl, rfl, trivial⟩ (fun _ h => h.keep [false, true, true] rfl)
     ·show ((k + 1) ≤ l.length) ∧ (((o ++ [(l.getD k default)]), d) = R27.setGo x e (l.take (k + 1))) ∧ ((o ++ [(l.getD k default)]).length ≤ 2 * (k + 1))
      refine ⟨?_, ?_, ?_⟩
      ·first | rfl | omega | (simp_all; done) | (simp_all; omega)
      ·first
        | exact R27.set_in_in (by omega) i1_1 (by first | exact R27.nin (by assumption) (by assumption) | exact R27.nout1 (by assumption) | exact R27.nout2 (by assumption)) (by assumption)
        | exact R27.set_in_no (by omega) i1_1 (by first | exact R27.nin (by assumption) (by assumption) | exact R27.nout1 (by assumption) | exact R27.nout2 (by assumption)) (by assumption)
        | exact R27.set_no_in (by omega) i1_1 (by first | exact R27.nin (by assumption) (by assumption) | exact R27.nout1 (by assumption) | exact R27.nout2 (by assumption)) (by assumption)
        | exact R27.set_no_no (by omega) i1_1 (by first | exact R27.nin (by assumption) (by assumption) | exact R27.nout1 (by assumption) | exact R27.nout2 (by assumption)) (by assumption)
      ·(try simp only [List.length_append, List.length_cons, List.length_nil]); omega
     ·show l.length - (k + 1) < l.length - k
      first | omega | (simp; omega) | (simp_all; omega)
    ·have h13w := h13
     have h13 := of_decide_eq_false h13
     refine J_skip (JX_block (JX_then (J_region ?_)))
     refine jr_ (vI ((k : Nat) : Int)) ?_
     refine js_ (vI ((k + 1 : Nat) : Int)) (x_add_n (a := k) (b := 1) rfl rfl (by omega)) ?_
     refine jr_ (vI ((k + 1 : Nat) : Int)) ?_
     refine JO_nil ?_
     refine JX_round ((k + 1, o, oA, oC, d) : Nat × (List Pair) × (Option Addr) × Nat × Bool) ?_ ?_ ⟨rfl, rfl, rfl, rfl, rfl, rfl, trivial⟩ (fun _ h => h)
     ·show ((k + 1) ≤ l.length) ∧ ((o, d) = R27.setGo x e (l.take (k + 1))) ∧ (o.length ≤ 2 * (k + 1))
      refine ⟨?_, ?_, ?_⟩
      ·first | rfl | omega | (simp_all; done) | (simp_all; omega)
      ·first
        | exact R27.set_in_in (by omega) i1_1 (by first | exact R27.nin (by assumption) (by assumption) | exact R27.nout1 (by assumption) | exact R27.nout2 (by assumption)) (by assumption)
        | exact R27.set_in_no (by omega) i1_1 (by first | exact R27.nin (by assumption) (by assumption) | exact R27.nout1 (by assumption) | exact R27.nout2 (by assumption)) (by assumption)
        | exact R27.set_no_in (by omega) i1_1 (by first | exact R27.nin (by assumption) (by assumption) | exact R27.nout1 (by assumption) | exact R27.nout2 (by assumption)) (by assumption)
        | exact R27.set_no_no (by omega) i1_1 (by first | exact R27.nin (by assumption) (by assumption) | exact R27.nout1 (by assumption) | exact R27.nout2 (by assumption)) (by assumption)
      ·(try simp only [List.length_append, List.length_cons, List.length_nil]); omega
     ·show l.length - (k + 1) < l.length - k
      first | omega | (simp; omega) | (simp_all; omega)
  ·have h4 : (d) = true := bnot_false h4
   refine JA_shun 3 rfl (by kernel_rfl) (by kernel_rfl) (by kernel_rfl) rfl (fun _ _ _ h => h) rfl ⟨_, rfl, rfl⟩ ?_
   refine JA_shun 4 rfl (by kernel_rfl) (by kernel_rfl) (by kernel_rfl) rfl (fun _ _ _ h => h) rfl ⟨_, rfl, rfl⟩ ?_
   refine JA_shun 5 rfl (by kernel_rfl) (by kernel_rfl) (by kernel_rfl) rfl (fun _ _ _ h => h) rfl ⟨_, rfl, rfl⟩ ?_
   refine JA_shun 6 rfl (by kernel_rfl) (by kernel_rfl) (by kernel_rfl) rfl (fun _ _ _ h => h) rfl ⟨_, rfl, rfl⟩ ?_
   refine JA_shun 7 rfl (by kernel_rfl) (by kernel_rfl) (by kernel_rfl) rfl (fun _ _ _ h => h) rfl ⟨_, rfl, rfl⟩ ?_
   refine JA_shun 8 rfl (by kernel_rfl) (by kernel_rfl) (by kernel_rfl) rfl (fun _ _ _ h => h) rfl ⟨_, rfl, rfl⟩ ?_
   refine JA_shun 9 rfl (by kernel_rfl) (by kernel_rfl) (by kernel_rfl) rfl (fun _ _ _ h => h) rfl ⟨_, rfl, rfl⟩ ?_
   refine JA_shun 10 rfl (by kernel_rfl) (by kernel_rfl) (by kernel_rfl) rfl (fun _ _ _ h => h) rfl ⟨_, rfl, rfl⟩ ?_
   refine jt_ 11 (vB false) rfl (fun _ _ => rfl) ?_
   refine JA_done (by kernel_rfl) (fun _ h => ⟨h, fun _ => h⟩) ?_
   refine JX_then ?_
   refine J_cond false rfl rfl (fun h => by cases h) (fun h => ?_)
   refine J_skip (JX_then (J_seq ?_))
   refine J_draw [Ent.blk b1 53 [vS x.key, vS x.record], Ent.row (.slice oA o.length oC) 53 2 o.length (o.flatMap Pair.enc)] [] [Ent.blk b1 53 [vS x.key, vS x.record], Ent.row (.slice oA o.length oC) 53 2 o.length (o.flatMap Pair.enc)] 8 Ty.mixed rfl ?_
   refine jt_ 0 (Value.slice lA l.length lC) rfl (fun _ _ => rfl) ?_
   refine jt_ 1 (vI ((k : Nat) : Int)) rfl (fun _ _ => rfl) ?_
   refine jt_ 2 (Value.pointer (some (adr lA (k * 2)))) rfl (x_indexAddr_at (k := k) (off := k * 2) (cells_ro lR) Try.underlying50 Ty.sz53 rfl rfl lt_ (by rw [flat_length Pair.enc 2 Pair.enc_len]; first | omega | (simp; omega) | (simp_all; omega) | (simp_all; done)) rfl) ?_
   refine jt_ 3 (Value.pointer (some (adr lA (k * 2)))) rfl (fun _ _ => x_fieldAddr Ty.fi53_0 rfl rfl) ?_
   refine jt_ 4 (vS ((l.getD k default).key)) rfl (x_load_at (cells_ro lR) rfl Ty.sc9 (flat_at Pair.enc 2 Pair.enc_len l default k 0 lt_ (by decide))) ?_
   refine jt_ 5 (Value.pointer (some ⟨b1, 0, none⟩)) rfl (fun _ _ => x_fieldAddr Ty.fi53_0 rfl rfl) ?_
   refine jt_ 6 (vS x.key) rfl (x_load 0 rfl rfl Ty.sc9 rfl) ?_
   refine jt_ 7 (vB (decide ((l.getD k default).key ≠ x.key))) rfl (fun _ _ => x_neq_s rfl rfl) ?_
   refine JA_done (by kernel_rfl) (fun _ h => ⟨h, fun _ => h⟩) ?_
   refine JX_then ?_
   refine J_cond (decide ((l.getD k default).key ≠ x.key)) rfl rfl (fun h17 => ?_) (fun h17 => ?_)
   ·have h17w := h17
    have h17 := of_decide_eq_true h17
    refine J_region ?_
    refine jr_ (Value.slice oA o.length oC) ?_
    refine jr_ (Value.slice lA l.length lC) ?_
    refine jr_ (vI ((k : Nat) : Int)) ?_
    refine JO_read (Value.pointer (some (adr lA (k * 2)))) rfl trivial (x_indexAddr_at (k := k) (off := k * 2) (cells_ro lR) Try.underlying50 Ty.sz53 rfl rfl lt_ (by rw [flat_length Pair.enc 2 Pair.enc_len]; first | omega | (simp; omega) | (simp_all; omega) | (simp_all; done)) rfl) ?_
    refine JO_read (Value.agg #[vS ((l.getD k default).key), vS ((l.getD k default).record)]) rfl trivial (x_loadN_at [vS ((l.getD k default).key), vS ((l.getD k default).record)] (cells_ro lR) rfl Ty.ag53 Ty.sz53 (flat_drop Pair.enc 2 Pair.enc_len l default k lt_)) ?_
    refine JO_op rfl trivial (O_buildSlice (cs := [vS ((l.getD k default).key), vS ((l.getD k default).record)]) Try.underlying50 Ty.sz53 Ty.ze53 (by decide) (by decide) (by kernel_rfl) fun b18 => ?_)
    refine JO_op rfl trivial (O_append_f 2 Pair.enc 2 o [(l.getD k default)] Try.underlying50 Ty.sz53 Ty.by53 Ty.ze53 rfl (by decide) rfl rfl rfl rfl Pair.enc_len Pair.enc_one (cells_blk 0 (off := 0) (m := 2) rfl rfl) lt_ lt_ fun A19 c20 => ?_)
    refine jr_ (Value.slice A19 ((o ++ [(l.getD k default)]).length) c20) ?_
    refine JO_nil (JX_block (JX_then (J_region ?_)))
    refine jr_ (vI ((k : Nat) : Int)) ?_
    refine js_ (vI ((k + 1 : Nat) : Int)) (x_add_n (a := k) (b := 1) rfl rfl (by omega)) ?_
    refine jr_ (vI ((k + 1 : Nat) : Int)) ?_
    refine JO_nil ?_
    refine JX_round ((k + 1, o ++ [(l.getD k default)], A19, c20, d) : Nat × (List Pair) × (Option Addr) × Nat × Bool) ?_ ?_ ⟨rfl, rfl, rfl, rfl, rfl, rfl, trivial⟩ (fun _ h => h.keep [false, true, true] rfl)
    ·show ((k + 1) ≤ l.length) ∧ (((o ++ [(l.getD k default)]), d) = R27.setGo x e (l.take (k + 1))) ∧ ((o ++ [(l.getD k default)]).length ≤ 2 * (k + 1))
     refine ⟨?_, ?_, ?_⟩
     ·first | rfl | omega | (simp_all; done) | (simp_all; omega)
     ·first
       | exact R27.set_in_in (by omega) i1_1 (by first | exact R27.nin (by assumption) (by assumption) | exact R27.nout1 (by assumption) | exact R27.nout2 (by assumption)) (by assumption)
       | exact R27.set_in_no (by omega) i1_1 (by first | exact R27.nin (by assumption) (by assumption) | exact R27.nout1 (by assumption) | exact R27.nout2 (by assumption)) (by assumption)
       | exact R27.set_no_in (by omega) i1_1 (by first | exact R27.nin (by assumption) (by assumption) | exact R27.nout1 (by assumption) | exact R27.nout2 (by assumption)) (by assumption)
       | exact R27.set_no_no (by omega) i1_1 (by first | exact R27.nin (by assumption) (by assumption) | exact R27.nout1 (by assumption) | exact R27.nout2 (by assumption)) (by assumption)
     ·(try simp only [List.length_append, List.length_cons, List.length_nil]); omega
    ·show l.length - (k + 1) < l.length - k
     first | omega | (simp; omega) | (simp_all; omega)
   ·have h17w := h17
    have h17 := of_decide_eq_false h17
    refine J_skip (JX_block (JX_then (J_region ?_)))
    refine jr_ (vI ((k : Nat) : Int)) ?_
    refine js_ (vI ((k + 1 : Nat) : Int)) (x_add_n (a := k) (b := 1) rfl rfl (by omega)) ?_
    refine jr_ (vI ((k + 1 : Nat) : Int)) ?_
    refine JO_nil ?_
    refine JX_round ((k + 1, o, oA, oC, d) : Nat × (List Pair) × (Option Addr) × Nat × Bool) ?_ ?_ ⟨rfl, rfl, rfl, rfl, rfl, rfl, trivial⟩ (fun _ h => h)
    ·show ((k + 1) ≤ l.length) ∧ ((o, d) = R27.setGo x e (l.take (k + 1))) ∧ (o.length ≤ 2 * (k + 1))
     refine ⟨?_, ?_, ?_⟩
     ·first | rfl | omega | (simp_all; done) | (simp_all; omega)
     ·first
       | exact R27.set_in_in (by omega) i1_1 (by first | exact R27.nin (by assumption) (by assumption) | exact R27.nout1 (by assumption) | exact R27.nout2 (by assumption)) (by assumption)
       | exact R27.set_in_no (by omega) i1_1 (by first | exact R27.nin (by assumption) (by assumption) | exact R27.nout1 (by assumption) | exact R27.nout2 (by assumption)) (by assumption)
       | exact R27.set_no_in (by omega) i1_1 (by first | exact R27.nin (by assumption) (by assumption) | exact R27.nout1 (by assumption) | exact R27.nout2 (by assumption)) (by assumption)
       | exact R27.set_no_no (by omega) i1_1 (by first | exact R27.nin (by assumption) (by assumption) | exact R27.nout1 (by assumption) | exact R27.nout2 (by assumption)) (by assumption)
     ·(try simp only [List.length_append, List.length_cons, List.length_nil]); omega
    ·show l.length - (k + 1) < l.length - k
     first | omega | (simp; omega) | (simp_all; omega)
 ·have h3w := h3
  have h3 := of_decide_eq_false h3
  refine J_exit (JX_then_exit (JX_round_exit (JX_block_hit (JX_then (J_seq ?_)))))
  refine J_seq (J_region ?_)
  refine jr_ (vB d) ?_
  refine js_ (vB (!d)) (x_not rfl) ?_
  refine JO_nil (JX_then ?_)
  refine J_cond (!d) rfl rfl (fun h21 => ?_) (fun h21 => ?_)
  ·have h21w := h21
   have h21 : (d) = false := bnot_true h21
   refine J_region ?_
   refine jr_ (Value.slice oA o.length oC) ?_
   refine JO_read (Value.agg #[vS x.key, vS x.record]) rfl trivial (x_loadN 0 [vS x.key, vS x.record] rfl rfl Ty.ag53 Ty.sz53 rfl) ?_
   refine JO_op rfl trivial (O_buildSlice (cs := [vS x.key, vS x.record]) Try.underlying50 Ty.sz53 Ty.ze53 (by decide) (by decide) (by kernel_rfl) fun b22 => ?_)
   refine JO_op rfl trivial (O_append_f 2 Pair.enc 2 o [x] Try.underlying50 Ty.sz53 Ty.by53 Ty.ze53 rfl (by decide) rfl rfl rfl rfl Pair.enc_len Pair.enc_one (cells_blk 0 (off := 0) (m := 2) rfl rfl) lt_ lt_ fun A23 c24 => ?_)
   refine jr_ (Value.slice A23 ((o ++ [x]).length) c24) ?_
   refine JO_nil (JX_then (J_seq (J_region ?_)))
   refine jr_ (Value.slice A23 ((o ++ [x]).length) c24) ?_
   refine jr_ (Value.slice A23 ((o ++ [x]).length) c24) ?_
   refine JO_nil (JX_then (J_ret ?_))
   first
    | have hd := R27.set_done (by omega) i1_1 (by assumption)
    | have hd := R27.set_last (by omega) i1_1 (by assumption)
   refine JX_rets [Value.slice A23 ((o ++ [x]).length) c24] (Value.slice A23 ((o ++ [x]).length) c24) Try.results82 (fun w h => ⟨rfl, trivial⟩) rfl [Ent.row (.slice A23 (o ++ [x]).length c24) 53 2 (o ++ [x]).length ((o ++ [x]).flatMap Pair.enc)] (fun _ h => h.keep [false, false, true] rfl) ⟨A23, c24, ?_, ?_⟩
   ·have e_x0 : ((o ++ [x]).length : Nat) = ((R27.setP l x e).length) := by first | (rw [hd]; done) | exact congrArg List.length hd | exact hd
    exact congrArg (fun (x0 : Nat) => Value.slice A23 x0 c24) e_x0
   ·have e_y0 : (o ++ [x] : List Pair) = (R27.setP l x e) := by
     first | (rw [hd]; done) | exact congrArg List.length hd | exact hd
    have e_all := (congrArg (fun (y0 : List Pair) => [Ent.row (.slice A23 y0.length c24) 53 2 y0.length (y0.flatMap Pair.enc)]) e_y0)
    exact e_all
  ·have h21w := h21
   have h21 : (d) = true := bnot_false h21
   refine J_skip (JX_then (J_seq (J_region ?_)))
   refine jr_ (Value.slice oA o.length oC) ?_
   refine jr_ (Value.slice oA o.length oC) ?_
   refine JO_nil (JX_then (J_ret ?_))
   first
    | have hd := R27.set_done (by omega) i1_1 (by assumption)
    | have hd := R27.set_last (by omega) i1_1 (by assumption)
   refine JX_rets [Value.slice oA o.length oC] (Value.slice oA o.length oC) Try.results82 (fun w h => ⟨rfl, trivial⟩) rfl [Ent.row (.slice oA o.length oC) 53 2 o.length (o.flatMap Pair.enc)] (fun _ h => h.keep [false, true] rfl) ⟨oA, oC, ?_, ?_⟩
   ·have e_x0 : (o.length : Nat) = ((R27.setP l x e).length) := by first | (rw [hd]; done) | exact congrArg List.length hd | exact hd
    exact congrArg (fun (x0 : Nat) => Value.slice oA x0 oC) e_x0
   ·have e_y0 : (o : List Pair) = (R27.setP l x e) := by
     first | (rw [hd]; done) | exact congrArg List.length hd | exact hd
    have e_all := (congrArg (fun (y0 : List Pair) => [Ent.row (.slice oA y0.length oC) 53 2 y0.length (y0.flatMap Pair.enc)]) e_y0)
    exact e_all
set_option maxRecDepth 20000 in
theorem f56_ok (l : List Pair) (lA : Option Addr) (lC : Nat) (c : Change) (key : Bytes) (w : World) (lR : RO [] w lA (l.flatMap Pair.enc)) (q0 : l.length ≤ 1000) (q1 : 0 ≤ c.Kind ∧ c.Kind ≤ 3) : Calls Try.prog 56 #[Value.slice lA l.length lC, Value.agg ((Change.enc c)).toArray, vS key] w (Gives [] w fun v L => ∃ A : Option Addr, ∃ cc : Nat, v = Value.slice A ((R27.chg l c key).length) cc ∧ L = [Ent.row (.slice A (R27.chg l c key).length cc) 53 2 (R27.chg l c key).length ((R27.chg l c key).flatMap Pair.enc)]) := by
 refine calls_J [] 36 Try.func56 rfl Try.ntmps56 [(0, Value.slice lA l.length lC), (1, Value.agg ((Change.enc c)).toArray), (2, vS key)] rfl rfl (Give.nil w) ?_
 refine J_seq (J_region ?_)
 refine JO_op rfl trivial (O_box rfl rfl fun b1 => ?_)
 refine jr_ (Value.slice none 0 0) ?_
 refine JO_nil (JX_then (J_seq (J_seq (J_region ?_))))
 refine js_ (Value.pointer (some ⟨b1, 0, none⟩)) (x_fieldAddr Ty.fi27_0 rfl rfl) ?_
 refine JO_read (vI c.Kind) rfl trivial (x_load 0 rfl rfl Ty.sc3 rfl) ?_
 refine JO_nil (JX_then (J_block (J_seq (J_region ?_))))
 refine js_ (vB (decide (c.Kind = 0))) (x_eql_i rfl rfl) ?_
 refine jr_ (vB (decide (c.Kind = 0))) ?_
 refine JO_nil (JX_then ?_)
 refine J_cond (decide (c.Kind = 0)) rfl rfl (fun h2 => ?_) (fun h2 => ?_)
 ·have h2w := h2
  have h2 := of_decide_eq_true h2
  refine J_seq (J_region ?_)
  refine jr_ (Value.slice lA l.length lC) ?_
  refine js_ (Value.pointer (some ⟨b1, 2, none⟩)) (x_fieldAddr Ty.fi27_2 rfl rfl) ?_
  refine JO_read (vS c.Key) rfl trivial (x_load 0 rfl rfl Ty.sc9 rfl) ?_
  refine js_ (Value.pointer (some ⟨b1, 3, none⟩)) (x_fieldAddr Ty.fi27_3 rfl rfl) ?_
  refine JO_read (vS c.Record) rfl trivial (x_load 0 rfl rfl Ty.sc9 rfl) ?_
  refine js_ (Value.agg #[vS c.Key, vS c.Record]) (x_build (by kernel_rfl)) ?_
  refine JO_call [] [] [Ent.blk b1 27 (Change.enc c)] rfl trivial (fun _ => x_call Ty.ca82 rfl) (fun _ h => h) (fun _ h => by cases h) (fun w hS => f82_ok l lA lC (Pair.mk c.Key c.Record) false w (lR.on hS (fun _ h => by cases h)) hy_) ?_
  rintro _ _ ⟨A3, cc4, rfl, rfl⟩
  refine jr_ (Value.slice A3 ((R27.setP l (Pair.mk c.Key c.Record) false).length) cc4) ?_
  refine JO_nil (JX_then (J_ret (JX_block_ret (JX_then_ret ?_))))
  first
   | have hd := R27.chg0 (l := l) (key := key) (by assumption : c.Kind = 0)
   | have hd := R27.chg1 (l := l) (key := key) (by assumption : c.Kind = 1)
   | have hd := R27.chg2 (l := l) (key := key) (by assumption : c.Kind = 2)
   | have hd := R27.chg3 (l := l) (key := key) (by assumption : c.Kind = 3)
  refine JX_rets [Value.slice A3 ((R27.setP l (Pair.mk c.Key c.Record) false).length) cc4] (Value.slice A3 ((R27.setP l (Pair.mk c.Key c.Record) false).length) cc4) Try.results56 (fun w h => ⟨rfl, trivial⟩) rfl [Ent.row (.slice A3 (R27.setP l (Pair.mk c.Key c.Record) false).length cc4) 53 2 (R27.setP l (Pair.mk c.Key c.Record) false).length ((R27.setP l (Pair.mk c.Key c.Record) false).flatMap Pair.enc)] (fun _ h => h.keep [true, false] rfl) ⟨A3, cc4, ?_, ?_⟩
  ·have e_x0 : ((R27.setP l (Pair.mk c.Key c.Record) false).length : Nat) = ((R27.chg l c key).length) := by first | exact hd.elim | exact congrArg List.length hd | exact hd | (rw [hd]; done)
   exact congrArg (fun (x0 : Nat) => Value.slice A3 x0 cc4) e_x0
  ·have e_y0 : ((R27.setP l (Pair.mk c.Key c.Record) false) : List Pair) = (R27.chg l c key) := by
    first | exact hd.elim | exact congrArg List.length hd | exact hd | (rw [hd]; done)
   have e_all := (congrArg (fun (y0 : List Pair) => [Ent.row (.slice A3 y0.length cc4) 53 2 y0.length (y0.flatMap Pair.enc)]) e_y0)
   exact e_all
 ·have h2w := h2
  have h2 := of_decide_eq_false h2
  refine J_seq (J_region ?_)
  refine js_ (vB (decide (c.Kind = 1))) (x_eql_i rfl rfl) ?_
  refine jr_ (vB (decide (c.Kind = 1))) ?_
  refine JO_nil (JX_then ?_)
  refine J_cond (decide (c.Kind = 1)) rfl rfl (fun h5 => ?_) (fun h5 => ?_)
  ·have h5w := h5
   have h5 := of_decide_eq_true h5
   refine J_seq (J_region ?_)
   refine jr_ (Value.slice lA l.length lC) ?_
   refine js_ (Value.pointer (some ⟨b1, 2, none⟩)) (x_fieldAddr Ty.fi27_2 rfl rfl) ?_
   refine JO_read (vS c.Key) rfl trivial (x_load 0 rfl rfl Ty.sc9 rfl) ?_
   refine js_ (Value.agg #[vS c.Key, vS []]) (x_build (by kernel_rfl)) ?_
   refine JO_call [] [] [Ent.blk b1 27 (Change.enc c)] rfl trivial (fun _ => x_call Ty.ca82 rfl) (fun _ h => h) (fun _ h => by cases h) (fun w hS => f82_ok l lA lC (Pair.mk c.Key []) true w (lR.on hS (fun _ h => by cases h)) hy_) ?_
   rintro _ _ ⟨A6, cc7, rfl, rfl⟩
   refine jr_ (Value.slice A6 ((R27.setP l (Pair.mk c.Key []) true).length) cc7) ?_
   refine JO_nil (JX_then (J_ret (JX_block_ret (JX_then_ret ?_))))
   first
    | have hd := R27.chg0 (l := l) (key := key) (by assumption : c.Kind = 0)
    | have hd := R27.chg1 (l := l) (key := key) (by assumption : c.Kind = 1)
    | have hd := R27.chg2 (l := l) (key := key) (by assumption : c.Kind = 2)
    | have hd := R27.chg3 (l := l) (key := key) (by assumption : c.Kind = 3)
   refine JX_rets [Value.slice A6 ((R27.setP l (Pair.mk c.Key []) true).length) cc7] (Value.slice A6 ((R27.setP l (Pair.mk c.Key []) true).length) cc7) Try.results56 (fun w h => ⟨rfl, trivial⟩) rfl [Ent.row (.slice A6 (R27.setP l (Pair.mk c.Key []) true).length cc7) 53 2 (R27.setP l (Pair.mk c.Key []) true).length ((R27.setP l (Pair.mk c.Key []) true).flatMap Pair.enc)] (fun _ h => h.keep [true, false] rfl) ⟨A6, cc7, ?_, ?_⟩
   ·have e_x0 : ((R27.setP l (Pair.mk c.Key []) true).length : Nat) = ((R27.chg l c key).length) := by first | exact hd.elim | exact congrArg List.length hd | exact hd | (rw [hd]; done)
    exact congrArg (fun (x0 : Nat) => Value.slice A6 x0 cc7) e_x0
   ·have e_y0 : ((R27.setP l (Pair.mk c.Key []) true) : List Pair) = (R27.chg l c key) := by
     first | exact hd.elim | exact congrArg List.length hd | exact hd | (rw [hd]; done)
    have e_all := (congrArg (fun (y0 : List Pair) => [Ent.row (.slice A6 y0.length cc7) 53 2 y0.length (y0.flatMap Pair.enc)]) e_y0)
    exact e_all
  ·have h5w := h5
   have h5 := of_decide_eq_false h5
   refine J_seq (J_region ?_)
   refine js_ (vB (decide (c.Kind = 2))) (x_eql_i rfl rfl) ?_
   refine jr_ (vB (decide (c.Kind = 2))) ?_
   refine JO_nil (JX_then ?_)
   refine J_cond (decide (c.Kind = 2)) rfl rfl (fun h8 => ?_) (fun h8 => ?_)
   ·have h8w := h8
    have h8 := of_decide_eq_true h8
    refine J_seq (J_region ?_)
    refine jr_ (Value.slice lA l.length lC) ?_
    refine jr_ (vS key) ?_
    refine js_ (Value.pointer (some ⟨b1, 3, none⟩)) (x_fieldAddr Ty.fi27_3 rfl rfl) ?_
    refine JO_read (vS c.Record) rfl trivial (x_load 0 rfl rfl Ty.sc9 rfl) ?_
    refine js_ (Value.agg #[vS key, vS c.Record]) (x_build (by kernel_rfl)) ?_
    refine JO_call [] [] [Ent.blk b1 27 (Change.enc c)] rfl trivial (fun _ => x_call Ty.ca82 rfl) (fun _ h => h) (fun _ h => by cases h) (fun w hS => f82_ok l lA lC (Pair.mk key c.Record) false w (lR.on hS (fun _ h => by cases h)) hy_) ?_
    rintro _ _ ⟨A9, cc10, rfl, rfl⟩
    refine jr_ (Value.slice A9 ((R27.setP l (Pair.mk key c.Record) false).length) cc10) ?_
    refine JO_nil (JX_then (J_ret (JX_block_ret (JX_then_ret ?_))))
    first
     | have hd := R27.chg0 (l := l) (key := key) (by assumption : c.Kind = 0)
     | have hd := R27.chg1 (l := l) (key := key) (by assumption : c.Kind = 1)
     | have hd := R27.chg2 (l := l) (key := key) (by assumption : c.Kind = 2)
     | have hd := R27.chg3 (l := l) (key := key) (by assumption : c.Kind = 3)
    refine JX_rets [Value.slice A9 ((R27.setP l (Pair.mk key c.Record) false).length) cc10] (Value.slice A9 ((R27.setP l (Pair.mk key c.Record) false).length) cc10) Try.results56 (fun w h => ⟨rfl, trivial⟩) rfl [Ent.row (.slice A9 (R27.setP l (Pair.mk key c.Record) false).length cc10) 53 2 (R27.setP l (Pair.mk key c.Record) false).length ((R27.setP l (Pair.mk key c.Record) false).flatMap Pair.enc)] (fun _ h => h.keep [true, false] rfl) ⟨A9, cc10, ?_, ?_⟩
    ·have e_x0 : ((R27.setP l (Pair.mk key c.Record) false).length : Nat) = ((R27.chg l c key).length) := by first | exact hd.elim | exact congrArg List.length hd | exact hd | (rw [hd]; done)
     exact congrArg (fun (x0 : Nat) => Value.slice A9 x0 cc10) e_x0
    ·have e_y0 : ((R27.setP l (Pair.mk key c.Record) false) : List Pair) = (R27.chg l c key) := by
      first | exact hd.elim | exact congrArg List.length hd | exact hd | (rw [hd]; done)
     have e_all := (congrArg (fun (y0 : List Pair) => [Ent.row (.slice A9 y0.length cc10) 53 2 y0.length (y0.flatMap Pair.enc)]) e_y0)
     exact e_all
   ·have h8w := h8
    have h8 := of_decide_eq_false h8
    refine J_seq (J_region ?_)
    refine js_ (vB (decide (c.Kind = 3))) (x_eql_i rfl rfl) ?_
    refine jr_ (vB (decide (c.Kind = 3))) ?_
    refine JO_nil (JX_then ?_)
    refine J_cond (decide (c.Kind = 3)) rfl rfl (fun h11 => ?_) (fun h11 => ?_)
    ·have h11w := h11
     have h11 := of_decide_eq_true h11
     refine J_seq (J_region ?_)
     refine jr_ (Value.slice none 0 0) ?_
     refine JO_nil (JX_then (J_ret (JX_block_ret (JX_then_ret ?_))))
     first
      | have hd := R27.chg0 (l := l) (key := key) (by assumption : c.Kind = 0)
      | have hd := R27.chg1 (l := l) (key := key) (by assumption : c.Kind = 1)
      | have hd := R27.chg2 (l := l) (key := key) (by assumption : c.Kind = 2)
      | have hd := R27.chg3 (l := l) (key := key) (by assumption : c.Kind = 3)
     refine JX_rets [Value.slice none 0 0] (Value.slice none 0 0) Try.results56 (fun w h => ⟨rfl, trivial⟩) rfl [Ent.row (.slice none ([] : List Pair).length 0) 53 2 ([] : List Pair).length (([] : List Pair).flatMap Pair.enc)] (fun _ h => (h.nilrow 53 2).keep [true, false] rfl) ⟨none, 0, ?_, ?_⟩
     ·have e_x0 : (0 : Nat) = ((R27.chg l c key).length) := by first | exact hd.elim | exact congrArg List.length hd | exact hd | (rw [hd]; done)
      exact congrArg (fun (x0 : Nat) => Value.slice none x0 0) e_x0
     ·have e_y0 : (([] : List Pair) : List Pair) = (R27.chg l c key) := by
       first | exact hd.elim | exact congrArg List.length hd | exact hd | (rw [hd]; done)
      have e_all := (congrArg (fun (y0 : List Pair) => [Ent.row (.slice none y0.length 0) 53 2 y0.length (y0.flatMap Pair.enc)]) e_y0)
      exact e_all
    ·have h11w := h11
     have h11 := of_decide_eq_false h11
     refine J_skip (JX_block (JX_then (J_seq (J_region ?_))))
     refine jr_ (Value.slice lA l.length lC) ?_
     refine jr_ (Value.slice lA l.length lC) ?_
     refine JO_nil (JX_then (J_ret ?_))
     exact False.elim (by omega)
set_option maxRecDepth 20000 in
theorem f35_ok (ds : List Data) (dsA : Option Addr) (dsC : Nat) (c : Change) (key : Bytes) (w : World) (dsR : RO [] w dsA (ds.flatMap Data.enc)) (dsN : ∀ i : Nat, RO [] w (ds.getD i default).PairsA (((ds.getD i default).Pairs).flatMap Pair.enc)) (q0 : ds.length ≤ 1000) (q1 : ∀ i, (ds.getD i default).Pairs.length ≤ 1000) (q2 : 0 ≤ c.Kind ∧ c.Kind ≤ 3) : Calls Try.prog 35 #[Value.agg #[Value.slice dsA ds.length dsC, Value.pointer none], Value.agg ((Change.enc c)).toArray, vS key] w (Gives [] w fun v L => ∃ A : Option Addr, ∃ cc : Nat, ∃ A2 : Option Addr, ∃ c2 : Nat, v = Value.agg #[Value.slice A ((R27.doD ds c key A2 c2).length) cc, Value.pointer none] ∧ L = [Ent.row (.slice A (R27.doD ds c key A2 c2).length cc) 67 2 (R27.doD ds c key A2 c2).length ((R27.doD ds c key A2 c2).flatMap Data.enc), Ent.row (.slice A2 (R27.chg (R27.ofP ds c.Id) c key).length c2) 53 2 (R27.chg (R27.ofP ds c.Id) c key).length ((R27.chg (R27.ofP ds c.Id) c key).flatMap Pair.enc)]) := by
 refine calls_J [] 57 Try.func35 rfl Try.ntmps35 [(0, Value.agg #[Value.slice dsA ds.length dsC, Value.pointer none]), (1, Value.agg ((Change.enc c)).toArray), (2, vS key)] rfl rfl (Give.nil w) ?_
 refine J_seq (J_region ?_)
 refine JO_op rfl trivial (O_box rfl rfl fun b1 => ?_)
 refine JO_op rfl trivial (O_box rfl rfl fun b2 => ?_)
 refine JO_op rfl trivial (O_alloc Ty.ze34 rfl fun b3 => ?_)
 refine JO_nil (JX_then (J_seq (J_region ?_)))
 refine JO_op rfl trivial (O_buildSlice0 Try.underlying22 Ty.sz67 fun b4 => ?_)
 refine jr_ (Value.slice (some ⟨b4, 0, none⟩) 0 0) ?_
 refine JO_nil (JX_then (J_seq (J_region ?_)))
 refine jr_ (vB false) ?_
 refine JO_nil (JX_then (J_seq (J_seq (J_region ?_))))
 refine jr_ (vI 0) ?_
 refine JO_nil (JX_then (J_block ?_))
 refine J_loop (X := Nat × (List Data) × (Option Addr) × Nat × Bool × (List Pair) × (Option Addr) × Nat) (fun (⟨k, out, outA, outC, found, ps, psA, psC⟩ : Nat × (List Data) × (Option Addr) × Nat × Bool × (List Pair) × (Option Addr) × Nat) => (k ≤ ds.length) ∧ (R27.DoAt ds c key k out found ps psA psC) ∧ (out.length ≤ k)) (fun (⟨k, out, outA, outC, found, ps, psA, psC⟩ : Nat × (List Data) × (Option Addr) × Nat × Bool × (List Pair) × (Option Addr) × Nat) => [(2, vS key), (3, Value.pointer (some ⟨b1, 0, none⟩)), (4, Value.pointer (some ⟨b2, 0, none⟩)), (6, Value.pointer (some ⟨b3, 0, none⟩)), (7, Value.slice outA out.length outC), (8, vB found), (9, vI ((k : Nat) : Int))]) (fun (⟨k, out, outA, outC, found, ps, psA, psC⟩ : Nat × (List Data) × (Option Addr) × Nat × Bool × (List Pair) × (Option Addr) × Nat) => [Ent.blk b3 34 [Value.slice none 0 0, Value.pointer none], Ent.blk b2 27 (Change.enc c), Ent.blk b1 34 [Value.slice dsA ds.length dsC, Value.pointer none], Ent.row (.slice outA out.length outC) 67 2 out.length (out.flatMap Data.enc), Ent.row (.slice psA ps.length psC) 53 2 ps.length (ps.flatMap Pair.enc)]) (fun (⟨k, out, outA, outC, found, ps, psA, psC⟩ : Nat × (List Data) × (Option Addr) × Nat × Bool × (List Pair) × (Option Addr) × Nat) => ds.length - k) ((0, [], (some ⟨b4, 0, none⟩), 0, false, ([] : List Pair), none, 0) : Nat × (List Data) × (Option Addr) × Nat × Bool × (List Pair) × (Option Addr) × Nat) ?_ ⟨rfl, rfl, rfl, rfl, rfl, rfl, rfl, trivial⟩ (fun _ h => ((((St.torow (cs := []) ((h.nilrow 53 2).front 1 _ rfl) 2 0 rfl (by decide)).front 4 _ rfl).front 4 _ rfl).front 4 _ rfl).keep [true, true, true, true, true] rfl) ?_
 ·show (0 ≤ ds.length) ∧ (R27.DoAt ds c key 0 [] false ([] : List Pair) none 0) ∧ ([].length ≤ 0)
  refine ⟨?_, ?_, ?_⟩
  ·first | rfl | omega | (simp_all; done) | (simp_all; omega)
  ·exact R27.do_start
  ·exact Nat.le_refl _
 rintro ⟨k, out, outA, outC, found, ps, psA, psC⟩ hI1
 obtain ⟨i1_0, i1_1, i1_2⟩ : (k ≤ ds.length) ∧ (R27.DoAt ds c key k out found ps psA psC) ∧ (out.length ≤ k) := hI1
 have hqk := q1 k
 refine J_weaken (E' := [(2, vS key), (3, Value.pointer (some ⟨b1, 0, none⟩)), (4, Value.pointer (some ⟨b2, 0, none⟩)), (6, Value.pointer (some ⟨b3, 0, none⟩)), (7, Value.slice outA out.length outC), (8, vB found), (9, vI ((k : Nat) : Int))]) (L' := [Ent.blk b3 34 [Value.slice none 0 0, Value.pointer none], Ent.blk b2 27 (Change.enc c), Ent.blk b1 34 [Value.slice dsA ds.length dsC, Value.pointer none], Ent.row (.slice outA out.length outC) 67 2 out.length (out.flatMap Data.enc), Ent.row (.slice psA ps.length psC) 53 2 ps.length (ps.flatMap Pair.enc)]) ⟨rfl, rfl, rfl, rfl, rfl, rfl, rfl, trivial⟩ (fun _ h => h) ?_
 refine J_seq (J_seq (J_region ?_))
 refine jr_ (vI ((k : Nat) : Int)) ?_
 refine js_ (Value.pointer (some ⟨b1, 0, none⟩)) (x_fieldAddr Ty.fi34_0 rfl rfl) ?_
 refine JO_read (Value.slice dsA ds.length dsC) rfl trivial (x_load 2 rfl rfl Ty.sc22 rfl) ?_
 refine js_ (vI ((ds.length : Nat) : Int)) (x_len_sl Try.underlying22 rfl) ?_
 refine js_ (vB (decide (((k : Nat) : Int) < ((ds.length : Nat) : Int)))) (x_lss_i rfl rfl) ?_
 refine JO_nil (JX_then ?_)
 refine J_cond (decide (((k : Nat) : Int) < ((ds.length : Nat) : Int))) rfl rfl (fun h5 => ?_) (fun h5 => ?_)
 ·have h5w := h5
  have h5 := of_decide_eq_true h5
  refine J_skip (JX_then (J_seq (J_block (J_seq (J_region ?_)))))
  refine js_ (Value.pointer (some ⟨b1, 0, none⟩)) (x_fieldAddr Ty.fi34_0 rfl rfl) ?_
  refine JO_read (Value.slice dsA ds.length dsC) rfl trivial (x_load 2 rfl rfl Ty.sc22 rfl) ?_
  refine jr_ (vI ((k : Nat) : Int)) ?_
  refine JO_read (Value.pointer (some (adr dsA (k * 2)))) rfl trivial (x_indexAddr_at (k := k) (off := k * 2) (cells_ro dsR) Try.underlying22 Ty.sz67 rfl rfl lt_ (by rw [flat_length Data.enc 2 Data.enc_len]; first | omega | (simp; omega) | (simp_all; omega) | (simp_all; done)) rfl) ?_
  refine JO_read (Value.agg #[vI ((ds.getD k default).Id), Value.slice (ds.getD k default).PairsA ((ds.getD k default).Pairs.length) ((ds.getD k default).PairsC)]) rfl trivial (x_loadN_at [vI ((ds.getD k default).Id), Value.slice (ds.getD k default).PairsA ((ds.getD k default).Pairs.length) ((ds.getD k default).PairsC)] (cells_ro dsR) rfl Ty.ag67 Ty.sz67 (flat_drop Data.enc 2 Data.enc_len ds default k lt_)) ?_
  refine JO_op rfl trivial (O_alloc Ty.ze67 rfl fun b6 => ?_)
  refine JO_op rfl trivial (O_store 0 [vI ((ds.getD k default).Id), Value.slice (ds.getD k default).PairsA ((ds.getD k default).Pairs.length) ((ds.getD k default).PairsC)] [Ent.blk b6 67 [vI ((ds.getD k default).Id), Value.slice (ds.getD k default).PairsA ((ds.getD k default).Pairs.length) ((ds.getD k default).PairsC)], Ent.blk b3 34 [Value.slice none 0 0, Value.pointer none], Ent.blk b2 27 (Change.enc c), Ent.blk b1 34 [Value.slice dsA ds.length dsC, Value.pointer none], Ent.row (.slice outA out.length outC) 67 2 out.length (out.flatMap Data.enc), Ent.row (.slice psA ps.length psC) 53 2 ps.length (ps.flatMap Pair.enc)] rfl rfl rfl Ty.sz67 rfl (Nat.le_of_ble_eq_true rfl) rfl rfl rfl ?_)
  refine JO_nil (JX_then (J_seq (J_seq (J_region ?_))))
  refine js_ (Value.pointer (some ⟨b6, 0, none⟩)) (x_fieldAddr Ty.fi67_0 rfl rfl) ?_
  refine JO_read (vI ((ds.getD k default).Id)) rfl trivial (x_load 0 rfl rfl Ty.sc3 rfl) ?_
  refine js_ (Value.pointer (some ⟨b2, 1, none⟩)) (x_fieldAddr Ty.fi27_1 rfl rfl) ?_
  refine JO_read (vI c.Id) rfl trivial (x_load 2 rfl rfl Ty.sc3 rfl) ?_
  refine js_ (vB (decide ((ds.getD k default).Id = c.Id))) (x_eql_i rfl rfl) ?_
  refine jr_ (vB (decide ((ds.getD k default).Id = c.Id))) ?_
  refine JO_cut 3 (fun z => z = ((decide ((ds.getD k default).Id = c.Id)) && (!found))) (fun z => [(2, vS key), (3, Value.pointer (some ⟨b1, 0, none⟩)), (4, Value.pointer (some ⟨b2, 0, none⟩)), (6, Value.pointer (some ⟨b3, 0, none⟩)), (7, Value.slice outA out.length outC), (8, vB found), (9, vI ((k : Nat) : Int)), (10, Value.pointer (some ⟨b6, 0, none⟩)), (32, vB z)]) (fun _ => [Ent.blk b6 67 [vI ((ds.getD k default).Id), Value.slice (ds.getD k default).PairsA ((ds.getD k default).Pairs.length) ((ds.getD k default).PairsC)], Ent.blk b3 34 [Value.slice none 0 0, Value.pointer none], Ent.blk b2 27 (Change.enc c), Ent.blk b1 34 [Value.slice dsA ds.length dsC, Value.pointer none], Ent.row (.slice outA out.length outC) 67 2 out.length (out.flatMap Data.enc), Ent.row (.slice psA ps.length psC) 53 2 ps.length (ps.flatMap Pair.enc)]) ?_ ?_
  ·rcases Bool.eq_false_or_eq_true (decide ((ds.getD k default).Id = c.Id)) with g8 | g8
   ·have g8r := g8
    have g8r := of_decide_eq_true g8r
    refine jg_ g8 (vB found) (rfl) ?_
    refine jg_ g8 (vB (!found)) (x_not rfl) ?_
    refine js_ (vB (!found)) (x_pick_t rfl g8 rfl) ?_
    refine JO_nil (JX_cut (!found) (by rw [g8]; simp) ⟨rfl, rfl, rfl, rfl, rfl, rfl, rfl, rfl, rfl, trivial⟩ (fun _ h => h))
   ·have g8r := g8
    have g8r := of_decide_eq_false g8r
    refine sh_ g8 ?_
    refine sh_ g8 ?_
    refine js_ (vB false) (x_pick_f rfl g8 rfl) ?_
    refine JO_nil (JX_cut (false) (by rw [g8]; simp) ⟨rfl, rfl, rfl, rfl, rfl, rfl, rfl, rfl, rfl, trivial⟩ (fun _ h => h))
  rintro z7 rfl
  refine JO_nil (JX_then ?_)
  refine J_cond ((decide ((ds.getD k default).Id = c.Id)) && (!found)) rfl rfl (fun h9 => ?_) (fun h9 => ?_)
  ·have h9w := h9
   have ⟨h9, h10⟩ := band_true h9
   have h9 := of_decide_eq_true h9
   have h10 : (found) = false := bnot_true h10
   refine J_seq (J_region ?_)
   refine jr_ (vB true) ?_
   refine JO_nil (JX_then (J_region ?_))
   refine js_ (Value.pointer (some ⟨b6, 1, none⟩)) (x_fieldAddr Ty.fi67_1 rfl rfl) ?_
   refine JO_read (Value.slice (ds.getD k default).PairsA ((ds.getD k default).Pairs.length) ((ds.getD k default).PairsC)) rfl trivial (x_load 0 rfl rfl Ty.sc50 rfl) ?_
   refine JO_read (Value.agg ((Change.enc c)).toArray) rfl trivial (x_loadN 2 (Change.enc c) rfl rfl Ty.ag27 Ty.sz27 rfl) ?_
   refine jr_ (vS key) ?_
   refine JO_call [] [] [Ent.blk b6 67 [vI ((ds.getD k default).Id), Value.slice (ds.getD k default).PairsA ((ds.getD k default).Pairs.length) ((ds.getD k default).PairsC)], Ent.blk b3 34 [Value.slice none 0 0, Value.pointer none], Ent.blk b2 27 (Change.enc c), Ent.blk b1 34 [Value.slice dsA ds.length dsC, Value.pointer none], Ent.row (.slice outA out.length outC) 67 2 out.length (out.flatMap Data.enc), Ent.row (.slice psA ps.length psC) 53 2 ps.length (ps.flatMap Pair.enc)] rfl trivial (fun _ => x_call Ty.ca56 rfl) (fun _ h => h) (fun _ h => by cases h) (fun w hS => f56_ok ((ds.getD k default).Pairs) ((ds.getD k default).PairsA) ((ds.getD k default).PairsC) c key w ((dsN k).on hS (fun _ h => by cases h)) hy_ hy_) ?_
   rintro _ _ ⟨A11, cc12, rfl, rfl⟩
   have ha13 := R27.chg_len ((ds.getD k default).Pairs) c key
   refine js_ (Value.pointer (some ⟨b6, 1, none⟩)) (x_fieldAddr Ty.fi67_1 rfl rfl) ?_
   refine JO_op rfl trivial (O_store 1 [vI ((ds.getD k default).Id), Value.slice A11 ((R27.chg ((ds.getD k default).Pairs) c key).length) cc12] [Ent.row (.slice A11 (R27.chg ((ds.getD k default).Pairs) c key).length cc12) 53 2 (R27.chg ((ds.getD k default).Pairs) c key).length ((R27.chg ((ds.getD k default).Pairs) c key).flatMap Pair.enc), Ent.blk b6 67 [vI ((ds.getD k default).Id), Value.slice A11 ((R27.chg ((ds.getD k default).Pairs) c key).length) cc12], Ent.blk b3 34 [Value.slice none 0 0, Value.pointer none], Ent.blk b2 27 (Change.enc c), Ent.blk b1 34 [Value.slice dsA ds.length dsC, Value.pointer none], Ent.row (.slice outA out.length outC) 67 2 out.length (out.flatMap Data.enc), Ent.row (.slice psA ps.length psC) 53 2 ps.length (ps.flatMap Pair.enc)] rfl rfl rfl Ty.sz50 rfl (Nat.le_of_ble_eq_true rfl) rfl rfl rfl ?_)
   refine JO_nil (JX_then (J_region ?_))
   refine jr_ (Value.slice outA out.length outC) ?_
   refine JO_read (Value.agg #[vI ((ds.getD k default).Id), Value.slice A11 ((R27.chg ((ds.getD k default).Pairs) c key).length) cc12]) rfl trivial (x_loadN 1 [vI ((ds.getD k default).Id), Value.slice A11 ((R27.chg ((ds.getD k default).Pairs) c key).length) cc12] rfl rfl Ty.ag67 Ty.sz67 rfl) ?_
   refine JO_op rfl trivial (O_buildSlice (cs := [vI ((ds.getD k default).Id), Value.slice A11 ((R27.chg ((ds.getD k default).Pairs) c key).length) cc12]) Try.underlying22 Ty.sz67 Ty.ze67 (by decide) (by decide) (by kernel_rfl) fun b14 => ?_)
   refine JO_op rfl trivial (O_append_f 6 Data.enc 2 out [(Data.mk ((ds.getD k default).Id) (R27.chg ((ds.getD k default).Pairs) c key) A11 cc12)] Try.underlying22 Ty.sz67 Ty.by67 Ty.ze67 rfl (by decide) rfl rfl rfl rfl Data.enc_len Data.enc_one (cells_blk 0 (off := 0) (m := 2) rfl rfl) lt_ lt_ fun A15 c16 => ?_)
   refine jr_ (Value.slice A15 ((out ++ [(Data.mk ((ds.getD k default).Id) (R27.chg ((ds.getD k default).Pairs) c key) A11 cc12)]).length) c16) ?_
   refine JO_nil (JX_block (JX_then (J_region ?_)))
   refine jr_ (vI ((k : Nat) : Int)) ?_
   refine js_ (vI ((k + 1 : Nat) : Int)) (x_add_n (a := k) (b := 1) rfl rfl (by omega)) ?_
   refine jr_ (vI ((k + 1 : Nat) : Int)) ?_
   refine JO_nil ?_
   refine JX_round ((k + 1, out ++ [(Data.mk ((ds.getD k default).Id) (R27.chg ((ds.getD k default).Pairs) c key) A11 cc12)], A15, c16, true, (R27.chg ((ds.getD k default).Pairs) c key), A11, cc12) : Nat × (List Data) × (Option Addr) × Nat × Bool × (List Pair) × (Option Addr) × Nat) ?_ ?_ ⟨rfl, rfl, rfl, rfl, rfl, rfl, rfl, trivial⟩ (fun _ h => (((((h.front 1 _ rfl).front 6 _ rfl).front 6 _ rfl).front 6 _ rfl).front 6 _ rfl).keep [true, true, true, true, true, false, false, false] rfl)
   ·show ((k + 1) ≤ ds.length) ∧ (R27.DoAt ds c key (k + 1) (out ++ [(Data.mk ((ds.getD k default).Id) (R27.chg ((ds.getD k default).Pairs) c key) A11 cc12)]) true (R27.chg ((ds.getD k default).Pairs) c key) A11 cc12) ∧ ((out ++ [(Data.mk ((ds.getD k default).Id) (R27.chg ((ds.getD k default).Pairs) c key) A11 cc12)]).length ≤ (k + 1))
    refine ⟨?_, ?_, ?_⟩
    ·first | rfl | omega | (simp_all; done) | (simp_all; omega)
    ·first | exact R27.do_hit (by omega) i1_1 (by assumption) (by assumption) rfl | exact R27.do_on (by omega) i1_1 (by assumption) | exact R27.do_on (by omega) i1_1 (.inl (by assumption)) | exact R27.do_on (by omega) i1_1 (.inr (by assumption))
    ·(try simp only [List.length_append, List.length_cons, List.length_nil]); omega
   ·show ds.length - (k + 1) < ds.length - k
    first | omega | (simp; omega) | (simp_all; omega)
  ·have h9w := h9
   simp only [Bool.and_eq_true, Bool.or_eq_true, Bool.and_eq_false_iff, Bool.or_eq_false_iff, Bool.not_eq_true', Bool.not_eq_false', decide_eq_true_eq, decide_eq_false_iff_not] at h9
   refine J_skip (JX_then (J_region ?_))
   refine jr_ (Value.slice outA out.length outC) ?_
   refine JO_read (Value.agg #[vI ((ds.getD k default).Id), Value.slice (ds.getD k default).PairsA ((ds.getD k default).Pairs.length) ((ds.getD k default).PairsC)]) rfl trivial (x_loadN 0 [vI ((ds.getD k default).Id), Value.slice (ds.getD k default).PairsA ((ds.getD k default).Pairs.length) ((ds.getD k default).PairsC)] rfl rfl Ty.ag67 Ty.sz67 rfl) ?_
   refine JO_op rfl trivial (O_buildSlice (cs := [vI ((ds.getD k default).Id), Value.slice (ds.getD k default).PairsA ((ds.getD k default).Pairs.length) ((ds.getD k default).PairsC)]) Try.underlying22 Ty.sz67 Ty.ze67 (by decide) (by decide) (by kernel_rfl) fun b17 => ?_)
   refine JO_op rfl trivial (O_append_f 5 Data.enc 2 out [(Data.mk ((ds.getD k default).Id) ((ds.getD k default).Pairs) ((ds.getD k default).PairsA) ((ds.getD k default).PairsC))] Try.underlying22 Ty.sz67 Ty.by67 Ty.ze67 rfl (by decide) rfl rfl rfl rfl Data.enc_len Data.enc_one (cells_blk 0 (off := 0) (m := 2) rfl rfl) lt_ lt_ fun A18 c19 => ?_)
   refine jr_ (Value.slice A18 ((out ++ [(Data.mk ((ds.getD k default).Id) ((ds.getD k default).Pairs) ((ds.getD k default).PairsA) ((ds.getD k default).PairsC))]).length) c19) ?_
   refine JO_nil (JX_block (JX_then (J_region ?_)))
   refine jr_ (vI ((k : Nat) : Int)) ?_
   refine js_ (vI ((k + 1 : Nat) : Int)) (x_add_n (a := k) (b := 1) rfl rfl (by omega)) ?_
   refine jr_ (vI ((k + 1 : Nat) : Int)) ?_
   refine JO_nil ?_
   refine JX_round ((k + 1, out ++ [(Data.mk ((ds.getD k default).Id) ((ds.getD k default).Pairs) ((ds.getD k default).PairsA) ((ds.getD k default).PairsC))], A18, c19, found, ps, psA, psC) : Nat × (List Data) × (Option Addr) × Nat × Bool × (List Pair) × (Option Addr) × Nat) ?_ ?_ ⟨rfl, rfl, rfl, rfl, rfl, rfl, rfl, trivial⟩ (fun _ h => h.keep [false, false, true, true, true, true, true] rfl)
   ·show ((k + 1) ≤ ds.length) ∧ (R27.DoAt ds c key (k + 1) (out ++ [(Data.mk ((ds.getD k default).Id) ((ds.getD k default).Pairs) ((ds.getD k default).PairsA) ((ds.getD k default).PairsC))]) found ps psA psC) ∧ ((out ++ [(Data.mk ((ds.getD k default).Id) ((ds.getD k default).Pairs) ((ds.getD k default).PairsA) ((ds.getD k default).PairsC))]).length ≤ (k + 1))
    refine ⟨?_, ?_, ?_⟩
    ·first | rfl | omega | (simp_all; done) | (simp_all; omega)
    ·first | exact R27.do_hit (by omega) i1_1 (by assumption) (by assumption) rfl | exact R27.do_on (by omega) i1_1 (by assumption) | exact R27.do_on (by omega) i1_1 (.inl (by assumption)) | exact R27.do_on (by omega) i1_1 (.inr (by assumption))
    ·(try simp only [List.length_append, List.length_cons, List.length_nil]); omega
   ·show ds.length - (k + 1) < ds.length - k
    first | omega | (simp; omega) | (simp_all; omega)
 ·have h5w := h5
  have h5 := of_decide_eq_false h5
  refine J_exit (JX_then_exit (JX_round_exit (JX_block_hit (JX_then (J_seq ?_)))))
  refine J_seq (J_region ?_)
  refine jr_ (vB found) ?_
  refine js_ (vB (!found)) (x_not rfl) ?_
  refine JO_nil (JX_then ?_)
  refine J_cond (!found) rfl rfl (fun h20 => ?_) (fun h20 => ?_)
  ·have h20w := h20
   have h20 : (found) = false := bnot_true h20
   refine J_draw [Ent.blk b3 34 [Value.slice none 0 0, Value.pointer none], Ent.blk b2 27 (Change.enc c), Ent.blk b1 34 [Value.slice dsA ds.length dsC, Value.pointer none], Ent.row (.slice psA ps.length psC) 53 2 ps.length (ps.flatMap Pair.enc)] [8] [Ent.blk b3 34 [Value.slice none 0 0, Value.pointer none], Ent.blk b2 27 (Change.enc c), Ent.blk b1 34 [Value.slice dsA ds.length dsC, Value.pointer none], Ent.row (.slice outA out.length outC) 67 2 out.length (out.flatMap Data.enc), Ent.row (.slice psA ps.length psC) 53 2 ps.length (ps.flatMap Pair.enc)] 10 Ty.mixed rfl ?_
   refine jt_ 0 (Value.slice outA out.length outC) rfl (fun _ _ => rfl) ?_
   refine jt_ 1 (Value.pointer (some ⟨b2, 1, none⟩)) rfl (fun _ _ => x_fieldAddr Ty.fi27_1 rfl rfl) ?_
   refine jt_ 2 (vI c.Id) rfl (x_load 1 rfl rfl Ty.sc3 rfl) ?_
   refine jt_ 3 (Value.agg ((Change.enc c)).toArray) rfl (x_loadN 1 (Change.enc c) rfl rfl Ty.ag27 Ty.sz27 rfl) ?_
   refine jt_ 4 (vS key) rfl (fun _ _ => rfl) ?_
   refine JA_one 5 (by kernel_rfl) (fun _ h => ⟨h.keep [true, true, true, false, true] rfl, fun _ => h⟩) ?_
   refine JI_call [] [] [Ent.blk b3 34 [Value.slice none 0 0, Value.pointer none], Ent.blk b2 27 (Change.enc c), Ent.blk b1 34 [Value.slice dsA ds.length dsC, Value.pointer none], Ent.row (.slice outA out.length outC) 67 2 out.length (out.flatMap Data.enc), Ent.row (.slice psA ps.length psC) 53 2 ps.length (ps.flatMap Pair.enc)] rfl rfl trivial (fun _ => x_call Ty.ca56 rfl) (fun _ h => h) (fun _ h => by cases h) (fun w hS => f56_ok [] none 0 c key w RO.nil hy_ hy_) ?_
   rintro _ _ ⟨A21, cc22, rfl, rfl⟩
   have ha23 := R27.chg_len [] c key
   try simp only [List.length_cons, List.length_nil, Nat.zero_add, Nat.reduceAdd, Nat.reduceMul] at ha23
   refine jt_ 6 (Value.agg #[vI c.Id, Value.slice A21 ((R27.chg [] c key).length) cc22]) rfl (fun _ _ => x_build (by kernel_rfl)) ?_
   refine JA_one 7 (by kernel_rfl) (fun _ h => ⟨h.keep [false, true, true, true, false, true] rfl, fun _ => h.keep [false, true, true, true, true, true] rfl⟩) ?_
   refine JI_op rfl rfl trivial (O_buildSlice (cs := [vI c.Id, Value.slice A21 ((R27.chg [] c key).length) cc22]) Try.underlying22 Ty.sz67 Ty.ze67 (by decide) (by decide) (by kernel_rfl) fun b25 => ?_)
   refine JA_one 8 (by kernel_rfl) (fun _ h => ⟨h.keep [false, false, true, true, true, false, true] rfl, fun _ => h.keep [false, false, true, true, true, true, true] rfl⟩) ?_
   refine JI_op rfl rfl trivial (O_append_f 5 Data.enc 2 out [(Data.mk c.Id (R27.chg [] c key) A21 cc22)] Try.underlying22 Ty.sz67 Ty.by67 Ty.ze67 rfl (by decide) rfl rfl rfl rfl Data.enc_len Data.enc_one (cells_blk 0 (off := 0) (m := 2) rfl rfl) lt_ lt_ fun A28 c29 => ?_)
   refine jt_ 9 (Value.slice A28 ((out ++ [(Data.mk c.Id (R27.chg [] c key) A21 cc22)]).length) c29) rfl (fun _ _ => rfl) ?_
   refine JA_done (by kernel_rfl) (fun _ h => ⟨h.keep [false, false, true, true, true, false, true] rfl, fun hh => Bool.noConfusion (show false = true from hh)⟩) ?_
   refine JX_then (J_seq (J_region ?_))
   refine jr_ (Value.slice A28 ((out ++ [(Data.mk c.Id (R27.chg [] c key) A21 cc22)]).length) c29) ?_
   refine js_ (Value.pointer (some ⟨b1, 0, none⟩)) (x_fieldAddr Ty.fi34_0 rfl rfl) ?_
   refine JO_op rfl trivial (O_store 4 [Value.slice A28 ((out ++ [(Data.mk c.Id (R27.chg [] c key) A21 cc22)]).length) c29, Value.pointer none] [Ent.blk b25 67 [vI c.Id, Value.slice A21 ((R27.chg [] c key).length) cc22], Ent.row (.slice A21 (R27.chg [] c key).length cc22) 53 2 (R27.chg [] c key).length ((R27.chg [] c key).flatMap Pair.enc), Ent.blk b3 34 [Value.slice none 0 0, Value.pointer none], Ent.blk b2 27 (Change.enc c), Ent.blk b1 34 [Value.slice A28 ((out ++ [(Data.mk c.Id (R27.chg [] c key) A21 cc22)]).length) c29, Value.pointer none], Ent.row (.slice A28 (out ++ [(Data.mk c.Id (R27.chg [] c key) A21 cc22)]).length c29) 67 2 (out ++ [(Data.mk c.Id (R27.chg [] c key) A21 cc22)]).length ((out ++ [(Data.mk c.Id (R27.chg [] c key) A21 cc22)]).flatMap Data.enc), Ent.row (.slice psA ps.length psC) 53 2 ps.length (ps.flatMap Pair.enc)] rfl rfl rfl Ty.sz22 rfl (Nat.le_of_ble_eq_true rfl) rfl rfl rfl ?_)
   refine JO_nil (JX_then (J_seq (J_region ?_)))
   refine JO_read (Value.agg ([Value.slice A28 ((out ++ [(Data.mk c.Id (R27.chg [] c key) A21 cc22)]).length) c29, Value.pointer none]).toArray) rfl trivial (x_loadN 4 [Value.slice A28 ((out ++ [(Data.mk c.Id (R27.chg [] c key) A21 cc22)]).length) c29, Value.pointer none] rfl rfl Ty.ag34 Ty.sz34 rfl) ?_
   refine JO_op rfl trivial (O_store 2 [Value.slice A28 ((out ++ [(Data.mk c.Id (R27.chg [] c key) A21 cc22)]).length) c29, Value.pointer none] [Ent.blk b25 67 [vI c.Id, Value.slice A21 ((R27.chg [] c key).length) cc22], Ent.row (.slice A21 (R27.chg [] c key).length cc22) 53 2 (R27.chg [] c key).length ((R27.chg [] c key).flatMap Pair.enc), Ent.blk b3 34 [Value.slice A28 ((out ++ [(Data.mk c.Id (R27.chg [] c key) A21 cc22)]).length) c29, Value.pointer none], Ent.blk b2 27 (Change.enc c), Ent.blk b1 34 [Value.slice A28 ((out ++ [(Data.mk c.Id (R27.chg [] c key) A21 cc22)]).length) c29, Value.pointer none], Ent.row (.slice A28 (out ++ [(Data.mk c.Id (R27.chg [] c key) A21 cc22)]).length c29) 67 2 (out ++ [(Data.mk c.Id (R27.chg [] c key) A21 cc22)]).length ((out ++ [(Data.mk c.Id (R27.chg [] c key) A21 cc22)]).flatMap Data.enc), Ent.row (.slice psA ps.length psC) 53 2 ps.length (ps.flatMap Pair.enc)] rfl rfl rfl Ty.sz34 rfl (Nat.le_of_ble_eq_true rfl) rfl rfl rfl ?_)
   refine JO_nil (JX_then (J_ret ?_))
   first
    | have hd := R27.do_old (by omega) i1_1 (by assumption)
    | have hd := And.intro (R27.do_new (A := A21) (C := cc22) (by omega) i1_1 (by assumption)) (R27.do_newP (by omega) i1_1 (by assumption))
   refine JX_rets [Value.agg ([Value.slice A28 ((out ++ [(Data.mk c.Id (R27.chg [] c key) A21 cc22)]).length) c29, Value.pointer none]).toArray] (Value.agg ([Value.slice A28 ((out ++ [(Data.mk c.Id (R27.chg [] c key) A21 cc22)]).length) c29, Value.pointer none]).toArray) Try.results35 (fun w h => ⟨⟨_, rfl, load_blkN 2 [Value.slice A28 ((out ++ [(Data.mk c.Id (R27.chg [] c key) A21 cc22)]).length) c29, Value.pointer none] h rfl Ty.ag34 Ty.sz34 rfl⟩, trivial⟩) rfl [Ent.row (.slice A28 (out ++ [(Data.mk c.Id (R27.chg [] c key) A21 cc22)]).length c29) 67 2 (out ++ [(Data.mk c.Id (R27.chg [] c key) A21 cc22)]).length ((out ++ [(Data.mk c.Id (R27.chg [] c key) A21 cc22)]).flatMap Data.enc), Ent.row (.slice A21 (R27.chg [] c key).length cc22) 53 2 (R27.chg [] c key).length ((R27.chg [] c key).flatMap Pair.enc)] (fun _ h => ((h.front 1 _ rfl).front 5 _ rfl).keep [true, true, false, false, false, false, false] rfl) ⟨A28, c29, A21, cc22, ?_, ?_⟩
   ·have e_x0 : ((out ++ [(Data.mk c.Id (R27.chg [] c key) A21 cc22)]).length : Nat) = ((R27.doD ds c key A21 cc22).length) := by first | exact congrArg List.length hd.1 | exact hd.1 | exact hd.2
    exact congrArg (fun (x0 : Nat) => Value.agg #[Value.slice A28 x0 c29, Value.pointer none]) e_x0
   ·have e_y0 : (out ++ [(Data.mk c.Id (R27.chg [] c key) A21 cc22)] : List Data) = (R27.doD ds c key A21 cc22) := by
     first | exact congrArg List.length hd.1 | exact hd.1 | exact hd.2
    have e_y1 : ((R27.chg [] c key) : List Pair) = (R27.chg (R27.ofP ds c.Id) c key) := by
     first | exact congrArg List.length hd.1 | exact hd.1 | exact hd.2
    have e_all := (congr (congrArg (fun (y0 : List Data) (y1 : List Pair) => [Ent.row (.slice A28 y0.length c29) 67 2 y0.length (y0.flatMap Data.enc), Ent.row (.slice A21 y1.length cc22) 53 2 y1.length (y1.flatMap Pair.enc)]) e_y0) e_y1)
    exact e_all
  ·have h20w := h20
   have h20 : (found) = true := bnot_false h20
   refine J_skip (JX_then (J_seq (J_region ?_)))
   refine jr_ (Value.slice outA out.length outC) ?_
   refine js_ (Value.pointer (some ⟨b1, 0, none⟩)) (x_fieldAddr Ty.fi34_0 rfl rfl) ?_
   refine JO_op rfl trivial (O_store 2 [Value.slice outA out.length outC, Value.pointer none] [Ent.blk b3 34 [Value.slice none 0 0, Value.pointer none], Ent.blk b2 27 (Change.enc c), Ent.blk b1 34 [Value.slice outA out.length outC, Value.pointer none], Ent.row (.slice outA out.length outC) 67 2 out.length (out.flatMap Data.enc), Ent.row (.slice psA ps.length psC) 53 2 ps.length (ps.flatMap Pair.enc)] rfl rfl rfl Ty.sz22 rfl (Nat.le_of_ble_eq_true rfl) rfl rfl rfl ?_)
   refine JO_nil (JX_then (J_seq (J_region ?_)))
   refine JO_read (Value.agg #[Value.slice outA out.length outC, Value.pointer none]) rfl trivial (x_loadN 2 [Value.slice outA out.length outC, Value.pointer none] rfl rfl Ty.ag34 Ty.sz34 rfl) ?_
   refine JO_op rfl trivial (O_store 0 [Value.slice outA out.length outC, Value.pointer none] [Ent.blk b3 34 [Value.slice outA out.length outC, Value.pointer none], Ent.blk b2 27 (Change.enc c), Ent.blk b1 34 [Value.slice outA out.length outC, Value.pointer none], Ent.row (.slice outA out.length outC) 67 2 out.length (out.flatMap Data.enc), Ent.row (.slice psA ps.length psC) 53 2 ps.length (ps.flatMap Pair.enc)] rfl rfl rfl Ty.sz34 rfl (Nat.le_of_ble_eq_true rfl) rfl rfl rfl ?_)
   refine JO_nil (JX_then (J_ret ?_))
   first
    | have hd := R27.do_old (by omega) i1_1 (by assumption)
    | have hd := And.intro (R27.do_new (A := psA) (C := psC) (by omega) i1_1 (by assumption)) (R27.do_newP (by omega) i1_1 (by assumption))
   refine JX_rets [Value.agg #[Value.slice outA out.length outC, Value.pointer none]] (Value.agg #[Value.slice outA out.length outC, Value.pointer none]) Try.results35 (fun w h => ⟨⟨_, rfl, load_blkN 0 [Value.slice outA out.length outC, Value.pointer none] h rfl Ty.ag34 Ty.sz34 rfl⟩, trivial⟩) rfl [Ent.row (.slice outA out.length outC) 67 2 out.length (out.flatMap Data.enc), Ent.row (.slice psA ps.length psC) 53 2 ps.length (ps.flatMap Pair.enc)] (fun _ h => h.keep [false, false, false, true, true] rfl) ⟨outA, outC, psA, psC, ?_, ?_⟩
   ·have e_x0 : (out.length : Nat) = ((R27.doD ds c key psA psC).length) := by first | exact congrArg List.length hd.1 | exact hd.1 | exact hd.2
    exact congrArg (fun (x0 : Nat) => Value.agg #[Value.slice outA x0 outC, Value.pointer none]) e_x0
   ·have e_y0 : (out : List Data) = (R27.doD ds c key psA psC) := by
     first | exact congrArg List.length hd.1 | exact hd.1 | exact hd.2
    have e_y1 : (ps : List Pair) = (R27.chg (R27.ofP ds c.Id) c key) := by
     first | exact congrArg List.length hd.1 | exact hd.1 | exact hd.2
    have e_all := (congr (congrArg (fun (y0 : List Data) (y1 : List Pair) => [Ent.row (.slice outA y0.length outC) 67 2 y0.length (y0.flatMap Data.enc), Ent.row (.slice psA y1.length psC) 53 2 y1.length (y1.flatMap Pair.enc)]) e_y0) e_y1)
    exact e_all
end Go.Proofs.Ytmbinhhlfbgiaaa
