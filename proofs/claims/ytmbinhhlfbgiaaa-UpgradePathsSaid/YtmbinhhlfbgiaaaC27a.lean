/- contracts C27a -/
import Derived.Test.YtmbinhhlfbgiaaaC26e
import Derived.Test.YtmbinhhlfbgiaaaMt27
import Derived.Test.YtmbinhhlfbgiaaaPl27
namespace Go.Proofs.Ytmbinhhlfbgiaaa
open Go.GV
set_option linter.unusedVariables false
set_option linter.unusedSimpArgs false
set_option maxRecDepth 20000 in
theorem f53_ok (ds : List Data) (dsA : Option Addr) (dsC : Nat) (w : World) (dsR : RO [] w dsA (ds.flatMap Data.enc)) (dsN : ∀ i : Nat, RO [] w (ds.getD i default).PairsA (((ds.getD i default).Pairs).flatMap Pair.enc)) : Calls Try.prog 53 #[Value.agg #[Value.slice dsA ds.length dsC, Value.pointer none]] w (Gives [] w fun v L => v = vB false ∧ L = []) := by
 refine calls_J [] 30 Try.func53 rfl Try.ntmps53 [(0, Value.agg #[Value.slice dsA ds.length dsC, Value.pointer none])] rfl rfl (Give.nil w) ?_
 refine J_seq (J_region ?_)
 refine JO_op rfl trivial (O_box rfl rfl fun b1 => ?_)
 refine jr_ (vB false) ?_
 refine JO_nil (JX_then (J_seq (J_seq (J_region ?_))))
 refine js_ (Value.pointer (some ⟨b1, 1, none⟩)) (x_fieldAddr Ty.fi34_1 rfl rfl) ?_
 refine JO_read (Value.pointer none) rfl trivial (x_load 0 rfl rfl Ty.sc32 rfl) ?_
 refine js_ (vB true) (x_eql_nilp Try.underlying32 rfl rfl) ?_
 refine jr_ (vB true) ?_
 refine sh_ rfl ?_
 refine sh_ rfl ?_
 refine sh_ rfl ?_
 refine sh_ rfl ?_
 refine sh_ rfl ?_
 refine sh_ rfl ?_
 refine jr_ (vB true) ?_
 refine JO_nil (JX_then ?_)
 refine J_cond true rfl rfl (fun h => ?_) (fun h => by cases h)
 refine J_seq (J_region ?_)
 refine jr_ (vB false) ?_
 refine JO_nil (JX_then (J_ret (JX_then_ret ?_)))
 refine JX_rets [vB false] (vB false) Try.results53 (fun w h => ⟨rfl, trivial⟩) rfl [] (fun _ h => h.keep [false] rfl) ⟨?_, ?_⟩
 ·rfl
 ·rfl
set_option maxRecDepth 20000 in
theorem f38_ok (ds : List Data) (dsA : Option Addr) (dsC : Nat) (id : Int) (w : World) (dsR : RO [] w dsA (ds.flatMap Data.enc)) (dsN : ∀ i : Nat, RO [] w (ds.getD i default).PairsA (((ds.getD i default).Pairs).flatMap Pair.enc)) (q0 : ds.length ≤ 1000) (q1 : ∀ i, (ds.getD i default).Pairs.length ≤ 1000) : Calls Try.prog 38 #[Value.agg #[Value.slice dsA ds.length dsC, Value.pointer none], vI id] w (Gives [] w fun v L => v = Value.slice (R27.ofD ds id).PairsA ((R27.ofD ds id).Pairs.length) ((R27.ofD ds id).PairsC) ∧ L = []) := by
 refine calls_J [] 27 Try.func38 rfl Try.ntmps38 [(0, Value.agg #[Value.slice dsA ds.length dsC, Value.pointer none]), (1, vI id)] rfl rfl (Give.nil w) ?_
 refine J_seq (J_region ?_)
 refine JO_op rfl trivial (O_box rfl rfl fun b1 => ?_)
 refine jr_ (Value.slice none 0 0) ?_
 refine JO_nil (JX_then (J_seq (J_seq (J_region ?_))))
 refine jr_ (vI 0) ?_
 refine JO_nil (JX_then (J_block ?_))
 refine J_loop (X := Nat) (fun (k : Nat) => (k ≤ ds.length) ∧ (∀ i, i < k → (ds.getD i default).Id ≠ id)) (fun (k : Nat) => [(1, vI id), (2, Value.pointer (some ⟨b1, 0, none⟩)), (5, vI ((k : Nat) : Int))]) (fun (k : Nat) => [Ent.blk b1 34 [Value.slice dsA ds.length dsC, Value.pointer none]]) (fun (k : Nat) => ds.length - k) (0 : Nat) ?_ ⟨rfl, rfl, rfl, trivial⟩ (fun _ h => h) ?_
 ·show (0 ≤ ds.length) ∧ (∀ i, i < 0 → (ds.getD i default).Id ≠ id)
  refine ⟨?_, ?_⟩
  ·first | rfl | omega | (simp_all; done) | (simp_all; omega)
  ·intro i hi; omega
 intro k hI1
 obtain ⟨i1_0, i1_1⟩ : (k ≤ ds.length) ∧ (∀ i, i < k → (ds.getD i default).Id ≠ id) := hI1
 refine J_weaken (E' := [(1, vI id), (2, Value.pointer (some ⟨b1, 0, none⟩)), (5, vI ((k : Nat) : Int))]) (L' := [Ent.blk b1 34 [Value.slice dsA ds.length dsC, Value.pointer none]]) ⟨rfl, rfl, rfl, trivial⟩ (fun _ h => h) ?_
 refine J_seq (J_seq (J_region ?_))
 refine jr_ (vI ((k : Nat) : Int)) ?_
 refine js_ (Value.pointer (some ⟨b1, 0, none⟩)) (x_fieldAddr Ty.fi34_0 rfl rfl) ?_
 refine JO_read (Value.slice dsA ds.length dsC) rfl trivial (x_load 0 rfl rfl Ty.sc22 rfl) ?_
 refine js_ (vI ((ds.length : Nat) : Int)) (x_len_sl Try.underlying22 rfl) ?_
 refine js_ (vB (decide (((k : Nat) : Int) < ((ds.length : Nat) : Int)))) (x_lss_i rfl rfl) ?_
 refine JO_nil (JX_then ?_)
 refine J_cond (decide (((k : Nat) : Int) < ((ds.length : Nat) : Int))) rfl rfl (fun h2 => ?_) (fun h2 => ?_)
 ·have h2 := of_decide_eq_true h2
  refine J_skip (JX_then (J_seq (J_block (J_seq (J_region ?_)))))
  refine js_ (Value.pointer (some ⟨b1, 0, none⟩)) (x_fieldAddr Ty.fi34_0 rfl rfl) ?_
  refine JO_read (Value.slice dsA ds.length dsC) rfl trivial (x_load 0 rfl rfl Ty.sc22 rfl) ?_
  refine jr_ (vI ((k : Nat) : Int)) ?_
  refine JO_read (Value.pointer (some (adr dsA (k * 2)))) rfl trivial (x_indexAddr_at (k := k) (off := k * 2) (cells_ro dsR) Try.underlying22 Ty.sz67 rfl rfl lt_ (by rw [flat_length Data.enc 2 Data.enc_len]; first | omega | (simp; omega) | (simp_all; omega) | (simp_all; done)) rfl) ?_
  refine js_ (Value.pointer (some (adr dsA (k * 2)))) (x_fieldAddr Ty.fi67_0 rfl rfl) ?_
  refine JO_read (vI ((ds.getD k default).Id)) rfl trivial (x_load_at (cells_ro dsR) rfl Ty.sc3 (flat_at Data.enc 2 Data.enc_len ds default k 0 lt_ (by decide))) ?_
  refine jr_ (vI id) ?_
  refine js_ (vB (decide ((ds.getD k default).Id = id))) (x_eql_i rfl rfl) ?_
  refine JO_nil (JX_then ?_)
  refine J_cond (decide ((ds.getD k default).Id = id)) rfl rfl (fun h3 => ?_) (fun h3 => ?_)
  ·have h3 := of_decide_eq_true h3
   refine J_seq (J_region ?_)
   refine js_ (Value.pointer (some ⟨b1, 0, none⟩)) (x_fieldAddr Ty.fi34_0 rfl rfl) ?_
   refine JO_read (Value.slice dsA ds.length dsC) rfl trivial (x_load 0 rfl rfl Ty.sc22 rfl) ?_
   refine jr_ (vI ((k : Nat) : Int)) ?_
   refine JO_read (Value.pointer (some (adr dsA (k * 2)))) rfl trivial (x_indexAddr_at (k := k) (off := k * 2) (cells_ro dsR) Try.underlying22 Ty.sz67 rfl rfl lt_ (by rw [flat_length Data.enc 2 Data.enc_len]; first | omega | (simp; omega) | (simp_all; omega) | (simp_all; done)) rfl) ?_
   refine js_ (Value.pointer (some (adr dsA (k * 2 + 1)))) (x_fieldAddr Ty.fi67_1 rfl (adr_add _ _ _)) ?_
   refine JO_read (Value.slice (ds.getD k default).PairsA ((ds.getD k default).Pairs.length) ((ds.getD k default).PairsC)) rfl trivial (x_load_at (cells_ro dsR) rfl Ty.sc50 (flat_at Data.enc 2 Data.enc_len ds default k 1 lt_ (by decide))) ?_
   refine jr_ (Value.slice (ds.getD k default).PairsA ((ds.getD k default).Pairs.length) ((ds.getD k default).PairsC)) ?_
   refine JO_nil (JX_then (J_ret (JX_block_ret (JX_then_ret (JX_round_ret ?_)))))
   refine JX_block_ret (JX_then_ret ?_)
   refine JX_rets [Value.slice (ds.getD k default).PairsA ((ds.getD k default).Pairs.length) ((ds.getD k default).PairsC)] (Value.slice (ds.getD k default).PairsA ((ds.getD k default).Pairs.length) ((ds.getD k default).PairsC)) Try.results38 (fun w h => ⟨rfl, trivial⟩) rfl [] (fun _ h => h.keep [false] rfl) ⟨?_, ?_⟩
   ·have e_x0 : ((ds.getD k default) : Data) = (R27.ofD ds id) := by first | exact R27.ofD_hit (by omega) i1_1 (by assumption) | exact R27.ofD_miss (by omega) i1_1
    exact congrArg (fun (x0 : Data) => Value.slice x0.PairsA x0.Pairs.length x0.PairsC) e_x0
   ·rfl
  ·have h3 := of_decide_eq_false h3
   refine J_skip (JX_block (JX_then (J_region ?_)))
   refine jr_ (vI ((k : Nat) : Int)) ?_
   refine js_ (vI ((k + 1 : Nat) : Int)) (x_add_n (a := k) (b := 1) rfl rfl (by omega)) ?_
   refine jr_ (vI ((k + 1 : Nat) : Int)) ?_
   refine JO_nil ?_
   refine JX_round (k + 1 : Nat) ?_ ?_ ⟨rfl, rfl, rfl, trivial⟩ (fun _ h => h)
   ·show ((k + 1) ≤ ds.length) ∧ (∀ i, i < (k + 1) → (ds.getD i default).Id ≠ id)
    refine ⟨?_, ?_⟩
    ·first | rfl | omega | (simp_all; done) | (simp_all; omega)
    ·intro i hi; by_cases hik : i = k
     ·subst hik; assumption
     ·exact i1_1 i (by omega)
   ·show ds.length - (k + 1) < ds.length - k
    first | omega | (simp; omega) | (simp_all; omega)
 ·have h2 := of_decide_eq_false h2
  refine J_exit (JX_then_exit (JX_round_exit (JX_block_hit (JX_then (J_seq ?_)))))
  refine J_region ?_
  refine jr_ (Value.slice none 0 0) ?_
  refine JO_nil (JX_then (J_ret ?_))
  refine JX_rets [Value.slice none 0 0] (Value.slice none 0 0) Try.results38 (fun w h => ⟨rfl, trivial⟩) rfl [] (fun _ h => h.keep [false] rfl) ⟨?_, ?_⟩
  ·have e_x0 : ((default : Data) : Data) = (R27.ofD ds id) := by first | exact R27.ofD_hit (by omega) i1_1 (by assumption) | exact R27.ofD_miss (by omega) i1_1
   exact congrArg (fun (x0 : Data) => Value.slice x0.PairsA x0.Pairs.length x0.PairsC) e_x0
  ·rfl
set_option maxRecDepth 20000 in
theorem f32_ok (ds : List Data) (dsA : Option Addr) (dsC : Nat) (id : Int) (q : Bytes) (w : World) (dsR : RO [] w dsA (ds.flatMap Data.enc)) (dsN : ∀ i : Nat, RO [] w (ds.getD i default).PairsA (((ds.getD i default).Pairs).flatMap Pair.enc)) (q0 : ds.length ≤ 1000) (q1 : ∀ i, (ds.getD i default).Pairs.length ≤ 1000) : Calls Try.prog 32 #[Value.agg #[Value.slice dsA ds.length dsC, Value.pointer none], vI id, vS q] w (Gives [] w fun v L => v = Value.tuple #[vS ((R27.getR (R27.ofD ds id).Pairs q).1), vI ((R27.getR (R27.ofD ds id).Pairs q).2)] ∧ L = []) := by
 refine calls_J [] 33 Try.func32 rfl Try.ntmps32 [(0, Value.agg #[Value.slice dsA ds.length dsC, Value.pointer none]), (1, vI id), (2, vS q)] rfl rfl (Give.nil w) ?_
 refine J_seq (J_region ?_)
 refine JO_op rfl trivial (O_box rfl rfl fun b1 => ?_)
 refine jr_ (vS []) ?_
 refine jr_ (vI 0) ?_
 refine JO_nil (JX_then (J_seq (J_seq (J_region ?_))))
 refine JO_read (Value.agg #[Value.slice dsA ds.length dsC, Value.pointer none]) rfl trivial (x_loadN 0 [Value.slice dsA ds.length dsC, Value.pointer none] rfl rfl Ty.ag34 Ty.sz34 rfl) ?_
 refine JO_call [] [] [Ent.blk b1 34 [Value.slice dsA ds.length dsC, Value.pointer none]] rfl trivial (fun _ => x_call Ty.ca53 rfl) (fun _ h => h) (fun _ h => by cases h) (fun w hS => f53_ok ds dsA dsC w (dsR.on hS (fun _ h => by cases h)) (fun i => (dsN i).on hS (fun _ h => by cases h))) ?_
 rintro _ _ ⟨rfl, rfl⟩
 refine JO_nil (JX_then ?_)
 refine J_cond false rfl rfl (fun h => by cases h) (fun h => ?_)
 refine J_skip (JX_then (J_seq (J_region ?_)))
 refine JO_read (Value.agg #[Value.slice dsA ds.length dsC, Value.pointer none]) rfl trivial (x_loadN 0 [Value.slice dsA ds.length dsC, Value.pointer none] rfl rfl Ty.ag34 Ty.sz34 rfl) ?_
 refine jr_ (vI id) ?_
 refine JO_call [] [] [Ent.blk b1 34 [Value.slice dsA ds.length dsC, Value.pointer none]] rfl trivial (fun _ => x_call Ty.ca38 rfl) (fun _ h => h) (fun _ h => by cases h) (fun w hS => f38_ok ds dsA dsC id w (dsR.on hS (fun _ h => by cases h)) (fun i => (dsN i).on hS (fun _ h => by cases h)) hy_ hy_) ?_
 rintro _ _ ⟨rfl, rfl⟩
 have ha2 := R27.ofD_len (by assumption) id
 refine jr_ (Value.slice (R27.ofD ds id).PairsA ((R27.ofD ds id).Pairs.length) ((R27.ofD ds id).PairsC)) ?_
 refine JO_nil (JX_then (J_seq (J_seq (J_region ?_))))
 refine jr_ (vI 0) ?_
 refine JO_nil (JX_then (J_block ?_))
 refine J_loop (X := Nat) (fun (k : Nat) => (k ≤ (R27.ofD ds id).Pairs.length) ∧ (∀ i, i < k → ((R27.ofD ds id).Pairs.getD i default).key ≠ q)) (fun (k : Nat) => [(2, vS q), (8, Value.slice (R27.ofD ds id).PairsA ((R27.ofD ds id).Pairs.length) ((R27.ofD ds id).PairsC)), (9, vI ((k : Nat) : Int))]) (fun (k : Nat) => []) (fun (k : Nat) => (R27.ofD ds id).Pairs.length - k) (0 : Nat) ?_ ⟨rfl, rfl, rfl, trivial⟩ (fun _ h => h.keep [false] rfl) ?_
 ·show (0 ≤ (R27.ofD ds id).Pairs.length) ∧ (∀ i, i < 0 → ((R27.ofD ds id).Pairs.getD i default).key ≠ q)
  refine ⟨?_, ?_⟩
  ·first | rfl | omega | (simp_all; done) | (simp_all; omega)
  ·intro i hi; omega
 intro k hI1
 obtain ⟨i1_0, i1_1⟩ : (k ≤ (R27.ofD ds id).Pairs.length) ∧ (∀ i, i < k → ((R27.ofD ds id).Pairs.getD i default).key ≠ q) := hI1
 refine J_weaken (E' := [(2, vS q), (8, Value.slice (R27.ofD ds id).PairsA ((R27.ofD ds id).Pairs.length) ((R27.ofD ds id).PairsC)), (9, vI ((k : Nat) : Int))]) (L' := []) ⟨rfl, rfl, rfl, trivial⟩ (fun _ h => h) ?_
 refine J_seq (J_seq (J_region ?_))
 refine jr_ (vI ((k : Nat) : Int)) ?_
 refine jr_ (Value.slice (R27.ofD ds id).PairsA ((R27.ofD ds id).Pairs.length) ((R27.ofD ds id).PairsC)) ?_
 refine js_ (vI (((R27.ofD ds id).Pairs.length : Nat) : Int)) (x_len_sl Try.underlying50 rfl) ?_
 refine js_ (vB (decide (((k : Nat) : Int) < (((R27.ofD ds id).Pairs.length : Nat) : Int)))) (x_lss_i rfl rfl) ?_
 refine JO_nil (JX_then ?_)
 refine J_cond (decide (((k : Nat) : Int) < (((R27.ofD ds id).Pairs.length : Nat) : Int))) rfl rfl (fun h3 => ?_) (fun h3 => ?_)
 ·have h3w := h3
  have h3 := of_decide_eq_true h3
  refine J_skip (JX_then (J_seq (J_block (J_seq (J_region ?_)))))
  refine jr_ (Value.slice (R27.ofD ds id).PairsA ((R27.ofD ds id).Pairs.length) ((R27.ofD ds id).PairsC)) ?_
  refine jr_ (vI ((k : Nat) : Int)) ?_
  refine JO_read (Value.pointer (some (adr (R27.ofD ds id).PairsA (k * 2)))) rfl trivial (x_indexAddr_at (k := k) (off := k * 2) (cells_ro (R27.ofD_ro dsN id)) Try.underlying50 Ty.sz53 rfl rfl lt_ (by rw [flat_length Pair.enc 2 Pair.enc_len]; first | omega | (simp; omega) | (simp_all; omega) | (simp_all; done)) rfl) ?_
  refine js_ (Value.pointer (some (adr (R27.ofD ds id).PairsA (k * 2)))) (x_fieldAddr Ty.fi53_0 rfl rfl) ?_
  refine JO_read (vS ((((R27.ofD ds id).Pairs).getD k default).key)) rfl trivial (x_load_at (cells_ro (R27.ofD_ro dsN id)) rfl Ty.sc9 (flat_at Pair.enc 2 Pair.enc_len ((R27.ofD ds id).Pairs) default k 0 lt_ (by decide))) ?_
  refine jr_ (vS q) ?_
  refine js_ (vB (decide ((((R27.ofD ds id).Pairs).getD k default).key = q))) (x_eql_s rfl rfl) ?_
  refine JO_nil (JX_then ?_)
  refine J_cond (decide ((((R27.ofD ds id).Pairs).getD k default).key = q)) rfl rfl (fun h4 => ?_) (fun h4 => ?_)
  ·have h4w := h4
   have h4 := of_decide_eq_true h4
   refine J_seq (J_region ?_)
   refine jr_ (Value.slice (R27.ofD ds id).PairsA ((R27.ofD ds id).Pairs.length) ((R27.ofD ds id).PairsC)) ?_
   refine jr_ (vI ((k : Nat) : Int)) ?_
   refine JO_read (Value.pointer (some (adr (R27.ofD ds id).PairsA (k * 2)))) rfl trivial (x_indexAddr_at (k := k) (off := k * 2) (cells_ro (R27.ofD_ro dsN id)) Try.underlying50 Ty.sz53 rfl rfl lt_ (by rw [flat_length Pair.enc 2 Pair.enc_len]; first | omega | (simp; omega) | (simp_all; omega) | (simp_all; done)) rfl) ?_
   refine js_ (Value.pointer (some (adr (R27.ofD ds id).PairsA (k * 2 + 1)))) (x_fieldAddr Ty.fi53_1 rfl (adr_add _ _ _)) ?_
   refine JO_read (vS ((((R27.ofD ds id).Pairs).getD k default).record)) rfl trivial (x_load_at (cells_ro (R27.ofD_ro dsN id)) rfl Ty.sc9 (flat_at Pair.enc 2 Pair.enc_len ((R27.ofD ds id).Pairs) default k 1 lt_ (by decide))) ?_
   refine jr_ (vS ((((R27.ofD ds id).Pairs).getD k default).record)) ?_
   refine jr_ (vI 0) ?_
   refine JO_nil (JX_then (J_ret (JX_block_ret (JX_then_ret (JX_round_ret ?_)))))
   refine JX_block_ret (JX_then_ret ?_)
   first
    | have hd := R27.get_hit (by omega) i1_1 (by assumption)
    | have hd := R27.get_miss (by omega) i1_1
   refine JX_rets [vS ((((R27.ofD ds id).Pairs).getD k default).record), vI 0] (Value.tuple #[vS ((((R27.ofD ds id).Pairs).getD k default).record), vI 0]) Try.results32 (fun w h => ⟨rfl, rfl, trivial⟩) rfl [] (fun _ h => h) ⟨?_, ?_⟩
   ·have e_x0 : ((((R27.ofD ds id).Pairs).getD k default).record : Bytes) = ((R27.getR (R27.ofD ds id).Pairs q).1) := by first | (rw [hd]; done) | (rw [hd]; rfl)
    have e_x1 : (0 : Int) = ((R27.getR (R27.ofD ds id).Pairs q).2) := by first | (rw [hd]; done) | (rw [hd]; rfl)
    have e_all := (congr (congrArg (fun (x0 : Bytes) (x1 : Int) => Value.tuple #[vS x0, vI x1]) e_x0) e_x1)
    exact e_all
   ·rfl
  ·have h4w := h4
   have h4 := of_decide_eq_false h4
   refine J_skip (JX_block (JX_then (J_region ?_)))
   refine jr_ (vI ((k : Nat) : Int)) ?_
   refine js_ (vI ((k + 1 : Nat) : Int)) (x_add_n (a := k) (b := 1) rfl rfl (by omega)) ?_
   refine jr_ (vI ((k + 1 : Nat) : Int)) ?_
   refine JO_nil ?_
   refine JX_round (k + 1 : Nat) ?_ ?_ ⟨rfl, rfl, rfl, trivial⟩ (fun _ h => h)
   ·show ((k + 1) ≤ (R27.ofD ds id).Pairs.length) ∧ (∀ i, i < (k + 1) → ((R27.ofD ds id).Pairs.getD i default).key ≠ q)
    refine ⟨?_, ?_⟩
    ·first | rfl | omega | (simp_all; done) | (simp_all; omega)
    ·intro i hi; by_cases hik : i = k
     ·subst hik; assumption
     ·exact i1_1 i (by omega)
   ·show (R27.ofD ds id).Pairs.length - (k + 1) < (R27.ofD ds id).Pairs.length - k
    first | omega | (simp; omega) | (simp_all; omega)
 ·have h3w := h3
  have h3 := of_decide_eq_false h3
  refine J_exit (JX_then_exit (JX_round_exit (JX_block_hit (JX_then (J_seq ?_)))))
  refine J_region ?_
  refine jr_ (vS []) ?_
  refine jr_ (vI 6) ?_
  refine JO_nil (JX_then (J_ret ?_))
  first
   | have hd := R27.get_hit (by omega) i1_1 (by assumption)
   | have hd := R27.get_miss (by omega) i1_1
  refine JX_rets [vS [], vI 6] (Value.tuple #[vS [], vI 6]) Try.results32 (fun w h => ⟨rfl, rfl, trivial⟩) rfl [] (fun _ h => h) ⟨?_, ?_⟩
  ·have e_x0 : ([] : Bytes) = ((R27.getR (R27.ofD ds id).Pairs q).1) := by first | (rw [hd]; done) | (rw [hd]; rfl)
   have e_x1 : (6 : Int) = ((R27.getR (R27.ofD ds id).Pairs q).2) := by first | (rw [hd]; done) | (rw [hd]; rfl)
   have e_all := (congr (congrArg (fun (x0 : Bytes) (x1 : Int) => Value.tuple #[vS x0, vI x1]) e_x0) e_x1)
   exact e_all
  ·rfl
set_option maxRecDepth 20000 in
theorem f54_ok (ds : List Data) (dsA : Option Addr) (dsC : Nat) (id : Int) (q : Bytes) (w : World) (dsR : RO [] w dsA (ds.flatMap Data.enc)) (dsN : ∀ i : Nat, RO [] w (ds.getD i default).PairsA (((ds.getD i default).Pairs).flatMap Pair.enc)) (q0 : ds.length ≤ 1000) (q1 : ∀ i, (ds.getD i default).Pairs.length ≤ 1000) : Calls Try.prog 54 #[Value.agg #[Value.slice dsA ds.length dsC, Value.pointer none], vI id, vS q] w (Gives [] w fun v L => v = Value.tuple #[vS ((R27.nextR (R27.ofD ds id).Pairs q).1), vS ((R27.nextR (R27.ofD ds id).Pairs q).2.1), vI ((R27.nextR (R27.ofD ds id).Pairs q).2.2)] ∧ L = []) := by
 refine calls_J [] 39 Try.func54 rfl Try.ntmps54 [(0, Value.agg #[Value.slice dsA ds.length dsC, Value.pointer none]), (1, vI id), (2, vS q)] rfl rfl (Give.nil w) ?_
 refine J_seq (J_region ?_)
 refine JO_op rfl trivial (O_box rfl rfl fun b1 => ?_)
 refine jr_ (vS []) ?_
 refine jr_ (vS []) ?_
 refine jr_ (vI 0) ?_
 refine JO_nil (JX_then (J_seq (J_seq (J_region ?_))))
 refine JO_read (Value.agg #[Value.slice dsA ds.length dsC, Value.pointer none]) rfl trivial (x_loadN 0 [Value.slice dsA ds.length dsC, Value.pointer none] rfl rfl Ty.ag34 Ty.sz34 rfl) ?_
 refine JO_call [] [] [Ent.blk b1 34 [Value.slice dsA ds.length dsC, Value.pointer none]] rfl trivial (fun _ => x_call Ty.ca53 rfl) (fun _ h => h) (fun _ h => by cases h) (fun w hS => f53_ok ds dsA dsC w (dsR.on hS (fun _ h => by cases h)) (fun i => (dsN i).on hS (fun _ h => by cases h))) ?_
 rintro _ _ ⟨rfl, rfl⟩
 refine JO_nil (JX_then ?_)
 refine J_cond false rfl rfl (fun h => by cases h) (fun h => ?_)
 refine J_skip (JX_then (J_seq (J_region ?_)))
 refine JO_read (Value.agg #[Value.slice dsA ds.length dsC, Value.pointer none]) rfl trivial (x_loadN 0 [Value.slice dsA ds.length dsC, Value.pointer none] rfl rfl Ty.ag34 Ty.sz34 rfl) ?_
 refine jr_ (vI id) ?_
 refine JO_call [] [] [Ent.blk b1 34 [Value.slice dsA ds.length dsC, Value.pointer none]] rfl trivial (fun _ => x_call Ty.ca38 rfl) (fun _ h => h) (fun _ h => by cases h) (fun w hS => f38_ok ds dsA dsC id w (dsR.on hS (fun _ h => by cases h)) (fun i => (dsN i).on hS (fun _ h => by cases h)) hy_ hy_) ?_
 rintro _ _ ⟨rfl, rfl⟩
 have ha2 := R27.ofD_len (by assumption) id
 refine jr_ (Value.slice (R27.ofD ds id).PairsA ((R27.ofD ds id).Pairs.length) ((R27.ofD ds id).PairsC)) ?_
 refine JO_nil (JX_then (J_seq (J_seq (J_region ?_))))
 refine jr_ (vI 0) ?_
 refine JO_nil (JX_then (J_block ?_))
 refine J_loop (X := Nat) (fun (k : Nat) => (k ≤ (R27.ofD ds id).Pairs.length) ∧ (∀ i, i < k → R27.gtB ((R27.ofD ds id).Pairs.getD i default).key q = false)) (fun (k : Nat) => [(2, vS q), (9, Value.slice (R27.ofD ds id).PairsA ((R27.ofD ds id).Pairs.length) ((R27.ofD ds id).PairsC)), (10, vI ((k : Nat) : Int))]) (fun (k : Nat) => []) (fun (k : Nat) => (R27.ofD ds id).Pairs.length - k) (0 : Nat) ?_ ⟨rfl, rfl, rfl, trivial⟩ (fun _ h => h.keep [false] rfl) ?_
 ·show (0 ≤ (R27.ofD ds id).Pairs.length) ∧ (∀ i, i < 0 → R27.gtB ((R27.ofD ds id).Pairs.getD i default).key q = false)
  refine ⟨?_, ?_⟩
  ·first | rfl | omega | (simp_all; done) | (simp_all; omega)
  ·intro i hi; omega
 intro k hI1
 obtain ⟨i1_0, i1_1⟩ : (k ≤ (R27.ofD ds id).Pairs.length) ∧ (∀ i, i < k → R27.gtB ((R27.ofD ds id).Pairs.getD i default).key q = false) := hI1
 refine J_weaken (E' := [(2, vS q), (9, Value.slice (R27.ofD ds id).PairsA ((R27.ofD ds id).Pairs.length) ((R27.ofD ds id).PairsC)), (10, vI ((k : Nat) : Int))]) (L' := []) ⟨rfl, rfl, rfl, trivial⟩ (fun _ h => h) ?_
 refine J_seq (J_seq (J_region ?_))
 refine jr_ (vI ((k : Nat) : Int)) ?_
 refine jr_ (Value.slice (R27.ofD ds id).PairsA ((R27.ofD ds id).Pairs.length) ((R27.ofD ds id).PairsC)) ?_
 refine js_ (vI (((R27.ofD ds id).Pairs.length : Nat) : Int)) (x_len_sl Try.underlying50 rfl) ?_
 refine js_ (vB (decide (((k : Nat) : Int) < (((R27.ofD ds id).Pairs.length : Nat) : Int)))) (x_lss_i rfl rfl) ?_
 refine JO_nil (JX_then ?_)
 refine J_cond (decide (((k : Nat) : Int) < (((R27.ofD ds id).Pairs.length : Nat) : Int))) rfl rfl (fun h3 => ?_) (fun h3 => ?_)
 ·have h3w := h3
  have h3 := of_decide_eq_true h3
  refine J_skip (JX_then (J_seq (J_block (J_seq (J_region ?_)))))
  refine jr_ (Value.slice (R27.ofD ds id).PairsA ((R27.ofD ds id).Pairs.length) ((R27.ofD ds id).PairsC)) ?_
  refine jr_ (vI ((k : Nat) : Int)) ?_
  refine JO_read (Value.pointer (some (adr (R27.ofD ds id).PairsA (k * 2)))) rfl trivial (x_indexAddr_at (k := k) (off := k * 2) (cells_ro (R27.ofD_ro dsN id)) Try.underlying50 Ty.sz53 rfl rfl lt_ (by rw [flat_length Pair.enc 2 Pair.enc_len]; first | omega | (simp; omega) | (simp_all; omega) | (simp_all; done)) rfl) ?_
  refine js_ (Value.pointer (some (adr (R27.ofD ds id).PairsA (k * 2)))) (x_fieldAddr Ty.fi53_0 rfl rfl) ?_
  refine JO_read (vS ((((R27.ofD ds id).Pairs).getD k default).key)) rfl trivial (x_load_at (cells_ro (R27.ofD_ro dsN id)) rfl Ty.sc9 (flat_at Pair.enc 2 Pair.enc_len ((R27.ofD ds id).Pairs) default k 0 lt_ (by decide))) ?_
  refine jr_ (vS q) ?_
  refine js_ (vB (!((Op.bytesLess ((((R27.ofD ds id).Pairs).getD k default).key) q) || (decide ((((R27.ofD ds id).Pairs).getD k default).key = q))))) (x_gtr_s rfl rfl) ?_
  refine JO_nil (JX_then ?_)
  refine J_cond (!((Op.bytesLess ((((R27.ofD ds id).Pairs).getD k default).key) q) || (decide ((((R27.ofD ds id).Pairs).getD k default).key = q)))) rfl rfl (fun h4 => ?_) (fun h4 => ?_)
  ·have h4w := h4
   have h4 : ((Op.bytesLess ((((R27.ofD ds id).Pairs).getD k default).key) q) || (decide ((((R27.ofD ds id).Pairs).getD k default).key = q))) = false := bnot_true h4
   have ⟨h4, h5⟩ := bor_false h4
   have h5 := of_decide_eq_false h5
   refine J_seq ?_
   refine J_draw [] [] [] 13 Ty.mixed rfl ?_
   refine jt_ 0 (Value.slice (R27.ofD ds id).PairsA ((R27.ofD ds id).Pairs.length) ((R27.ofD ds id).PairsC)) rfl (fun _ _ => rfl) ?_
   refine jt_ 1 (vI ((k : Nat) : Int)) rfl (fun _ _ => rfl) ?_
   refine jt_ 2 (Value.pointer (some (adr (R27.ofD ds id).PairsA (k * 2)))) rfl (x_indexAddr_at (k := k) (off := k * 2) (cells_ro (R27.ofD_ro dsN id)) Try.underlying50 Ty.sz53 rfl rfl lt_ (by rw [flat_length Pair.enc 2 Pair.enc_len]; first | omega | (simp; omega) | (simp_all; omega) | (simp_all; done)) rfl) ?_
   refine jt_ 3 (Value.pointer (some (adr (R27.ofD ds id).PairsA (k * 2)))) rfl (fun _ _ => x_fieldAddr Ty.fi53_0 rfl rfl) ?_
   refine jt_ 4 (vS ((((R27.ofD ds id).Pairs).getD k default).key)) rfl (x_load_at (cells_ro (R27.ofD_ro dsN id)) rfl Ty.sc9 (flat_at Pair.enc 2 Pair.enc_len ((R27.ofD ds id).Pairs) default k 0 lt_ (by decide))) ?_
   refine jt_ 5 (Value.slice (R27.ofD ds id).PairsA ((R27.ofD ds id).Pairs.length) ((R27.ofD ds id).PairsC)) rfl (fun _ _ => rfl) ?_
   refine jt_ 6 (vI ((k : Nat) : Int)) rfl (fun _ _ => rfl) ?_
   refine jt_ 7 (Value.pointer (some (adr (R27.ofD ds id).PairsA (k * 2)))) rfl (x_indexAddr_at (k := k) (off := k * 2) (cells_ro (R27.ofD_ro dsN id)) Try.underlying50 Ty.sz53 rfl rfl lt_ (by rw [flat_length Pair.enc 2 Pair.enc_len]; first | omega | (simp; omega) | (simp_all; omega) | (simp_all; done)) rfl) ?_
   refine jt_ 8 (Value.pointer (some (adr (R27.ofD ds id).PairsA (k * 2 + 1)))) rfl (fun _ _ => x_fieldAddr Ty.fi53_1 rfl (adr_add _ _ _)) ?_
   refine jt_ 9 (vS ((((R27.ofD ds id).Pairs).getD k default).record)) rfl (x_load_at (cells_ro (R27.ofD_ro dsN id)) rfl Ty.sc9 (flat_at Pair.enc 2 Pair.enc_len ((R27.ofD ds id).Pairs) default k 1 lt_ (by decide))) ?_
   refine jt_ 10 (vS ((((R27.ofD ds id).Pairs).getD k default).key)) rfl (fun _ _ => rfl) ?_
   refine jt_ 11 (vS ((((R27.ofD ds id).Pairs).getD k default).record)) rfl (fun _ _ => rfl) ?_
   refine jt_ 12 (vI 0) rfl (fun _ _ => rfl) ?_
   refine JA_done (by kernel_rfl) (fun _ h => ⟨h, fun _ => h⟩) ?_
   refine JX_then (J_ret (JX_block_ret (JX_then_ret (JX_round_ret (JX_block_ret ?_)))))
   refine JX_then_ret ?_
   first
    | have hd := R27.next_hit (by omega) i1_1 (by assumption)
    | have hd := R27.next_miss (by omega) i1_1
   refine JX_rets [vS ((((R27.ofD ds id).Pairs).getD k default).key), vS ((((R27.ofD ds id).Pairs).getD k default).record), vI 0] (Value.tuple #[vS ((((R27.ofD ds id).Pairs).getD k default).key), vS ((((R27.ofD ds id).Pairs).getD k default).record), vI 0]) Try.results54 (fun w h => ⟨rfl, rfl, rfl, trivial⟩) rfl [] (fun _ h => h) ⟨?_, ?_⟩
   ·have e_x0 : ((((R27.ofD ds id).Pairs).getD k default).key : Bytes) = ((R27.nextR (R27.ofD ds id).Pairs q).1) := by first | (rw [hd]; done) | (rw [hd]; rfl)
    have e_x1 : ((((R27.ofD ds id).Pairs).getD k default).record : Bytes) = ((R27.nextR (R27.ofD ds id).Pairs q).2.1) := by first | (rw [hd]; done) | (rw [hd]; rfl)
    have e_x2 : (0 : Int) = ((R27.nextR (R27.ofD ds id).Pairs q).2.2) := by first | (rw [hd]; done) | (rw [hd]; rfl)
    have e_all := (congr (congr (congrArg (fun (x0 : Bytes) (x1 : Bytes) (x2 : Int) => Value.tuple #[vS x0, vS x1, vI x2]) e_x0) e_x1) e_x2)
    exact e_all
   ·rfl
  ·have h4w := h4
   have h4 : ((Op.bytesLess ((((R27.ofD ds id).Pairs).getD k default).key) q) || (decide ((((R27.ofD ds id).Pairs).getD k default).key = q))) = true := bnot_false h4
   simp only [Bool.and_eq_true, Bool.or_eq_true, Bool.and_eq_false_iff, Bool.or_eq_false_iff, Bool.not_eq_true', Bool.not_eq_false', decide_eq_true_eq, decide_eq_false_iff_not] at h4
   refine J_skip (JX_block (JX_then (J_region ?_)))
   refine jr_ (vI ((k : Nat) : Int)) ?_
   refine js_ (vI ((k + 1 : Nat) : Int)) (x_add_n (a := k) (b := 1) rfl rfl (by omega)) ?_
   refine jr_ (vI ((k + 1 : Nat) : Int)) ?_
   refine JO_nil ?_
   refine JX_round (k + 1 : Nat) ?_ ?_ ⟨rfl, rfl, rfl, trivial⟩ (fun _ h => h)
   ·show ((k + 1) ≤ (R27.ofD ds id).Pairs.length) ∧ (∀ i, i < (k + 1) → R27.gtB ((R27.ofD ds id).Pairs.getD i default).key q = false)
    refine ⟨?_, ?_⟩
    ·first | rfl | omega | (simp_all; done) | (simp_all; omega)
    ·intro i hi; by_cases hik : i = k
     ·subst hik; assumption
     ·exact i1_1 i (by omega)
   ·show (R27.ofD ds id).Pairs.length - (k + 1) < (R27.ofD ds id).Pairs.length - k
    first | omega | (simp; omega) | (simp_all; omega)
 ·have h3w := h3
  have h3 := of_decide_eq_false h3
  refine J_exit (JX_then_exit (JX_round_exit (JX_block_hit (JX_then (J_seq ?_)))))
  refine J_region ?_
  refine jr_ (vS []) ?_
  refine jr_ (vS []) ?_
  refine jr_ (vI 6) ?_
  refine JO_nil (JX_then (J_ret ?_))
  first
   | have hd := R27.next_hit (by omega) i1_1 (by assumption)
   | have hd := R27.next_miss (by omega) i1_1
  refine JX_rets [vS [], vS [], vI 6] (Value.tuple #[vS [], vS [], vI 6]) Try.results54 (fun w h => ⟨rfl, rfl, rfl, trivial⟩) rfl [] (fun _ h => h) ⟨?_, ?_⟩
  ·have e_x0 : ([] : Bytes) = ((R27.nextR (R27.ofD ds id).Pairs q).1) := by first | (rw [hd]; done) | (rw [hd]; rfl)
   have e_x1 : ([] : Bytes) = ((R27.nextR (R27.ofD ds id).Pairs q).2.1) := by first | (rw [hd]; done) | (rw [hd]; rfl)
   have e_x2 : (6 : Int) = ((R27.nextR (R27.ofD ds id).Pairs q).2.2) := by first | (rw [hd]; done) | (rw [hd]; rfl)
   have e_all := (congr (congr (congrArg (fun (x0 : Bytes) (x1 : Bytes) (x2 : Int) => Value.tuple #[vS x0, vS x1, vI x2]) e_x0) e_x1) e_x2)
   exact e_all
  ·rfl
set_option maxRecDepth 20000 in
theorem f60_ok (s : Bytes) (k : Bytes) (w : World) : Calls Try.prog 60 #[vS s, vS k] w (Gives [] w fun v L => v = vB (R27.begins s k) ∧ L = []) := by
 refine calls_J [] 18 Try.func60 rfl Try.ntmps60 [(0, vS s), (1, vS k)] rfl rfl (Give.nil w) ?_
 refine J_seq (J_region ?_)
 refine jr_ (vB false) ?_
 refine JO_nil (JX_then (J_seq (J_region ?_)))
 refine jr_ (vS s) ?_
 refine js_ (vI ((s.length : Nat) : Int)) (x_len_s rfl Try.underlying9) ?_
 refine jr_ (vS k) ?_
 refine js_ (vI ((k.length : Nat) : Int)) (x_len_s rfl Try.underlying9) ?_
 refine js_ (vB (decide (((k.length : Nat) : Int) ≤ ((s.length : Nat) : Int)))) (x_geq_i rfl rfl) ?_
 refine jr_ (vB (decide (((k.length : Nat) : Int) ≤ ((s.length : Nat) : Int)))) ?_
 refine JO_cut 7 (fun z => z = ((decide (((k.length : Nat) : Int) ≤ ((s.length : Nat) : Int))) && (decide (sub s 0 k.length = k)))) (fun z => [(4, vB false), (17, vB z)]) (fun _ => []) ?_ ?_
 ·rcases Bool.eq_false_or_eq_true (decide (((k.length : Nat) : Int) ≤ ((s.length : Nat) : Int))) with g2 | g2
  ·have g2r := g2
   have g2r := of_decide_eq_true g2r
   refine jg_ g2 (vS s) (rfl) ?_
   refine jg_ g2 (vS k) (rfl) ?_
   refine jg_ g2 (vI ((k.length : Nat) : Int)) (x_len_s rfl Try.underlying9) ?_
   refine jg_ g2 (vS (sub s 0 k.length)) (x_sub_s (lo := 0) (hi := k.length) rfl Try.underlying9 (.inr ⟨rfl, rfl⟩) (.inl rfl) lt_ (by first | omega | (simp only [sub, List.length_drop, List.length_take]; omega) | (simp; omega) | (simp_all; omega))) ?_
   refine jg_ g2 (vS k) (rfl) ?_
   refine jg_ g2 (vB (decide (sub s 0 k.length = k))) (x_eql_s rfl rfl) ?_
   refine js_ (vB (decide (sub s 0 k.length = k))) (x_pick_t rfl g2 rfl) ?_
   refine JO_nil (JX_cut (decide (sub s 0 k.length = k)) (by rw [g2]; simp) ⟨rfl, rfl, trivial⟩ (fun _ h => h))
  ·have g2r := g2
   have g2r := of_decide_eq_false g2r
   refine sh_ g2 ?_
   refine sh_ g2 ?_
   refine sh_ g2 ?_
   refine sh_ g2 ?_
   refine sh_ g2 ?_
   refine sh_ g2 ?_
   refine js_ (vB false) (x_pick_f rfl g2 rfl) ?_
   refine JO_nil (JX_cut (false) (by rw [g2]; simp) ⟨rfl, rfl, trivial⟩ (fun _ h => h))
 rintro z1 rfl
 refine jr_ (vB ((decide (((k.length : Nat) : Int) ≤ ((s.length : Nat) : Int))) && (decide (sub s 0 k.length = k)))) ?_
 refine JO_nil (JX_then (J_ret ?_))
 refine JX_rets [vB ((decide (((k.length : Nat) : Int) ≤ ((s.length : Nat) : Int))) && (decide (sub s 0 k.length = k)))] (vB ((decide (((k.length : Nat) : Int) ≤ ((s.length : Nat) : Int))) && (decide (sub s 0 k.length = k)))) Try.results60 (fun w h => ⟨rfl, trivial⟩) rfl [] (fun _ h => h) ⟨?_, ?_⟩
 ·have e_x0 : ((decide (((k.length : Nat) : Int) ≤ ((s.length : Nat) : Int))) && (decide (sub s 0 k.length = k)) : Bool) = (R27.begins s k) := by rfl
  exact congrArg (fun (x0 : Bool) => vB x0) e_x0
 ·rfl
set_option maxRecDepth 20000 in
theorem f37_ok (s : Bytes) (k : Bytes) (w : World) : Calls Try.prog 37 #[vS s, vS k] w (Gives [] w fun v L => v = vB (R27.begins s k) ∧ L = []) := by
 refine calls_J [] 8 Try.func37 rfl Try.ntmps37 [(0, vS s), (1, vS k)] rfl rfl (Give.nil w) ?_
 refine J_seq (J_region ?_)
 refine jr_ (vB false) ?_
 refine JO_nil (JX_then (J_seq (J_region ?_)))
 refine jr_ (vS s) ?_
 refine jr_ (vS k) ?_
 refine JO_call [] [] [] rfl trivial (fun _ => x_call Ty.ca60 rfl) (fun _ h => h) (fun _ h => by cases h) (fun w hS => f60_ok s k w) ?_
 rintro _ _ ⟨rfl, rfl⟩
 refine jr_ (vB (R27.begins s k)) ?_
 refine JO_nil (JX_then (J_ret ?_))
 refine JX_rets [vB (R27.begins s k)] (vB (R27.begins s k)) Try.results37 (fun w h => ⟨rfl, trivial⟩) rfl [] (fun _ h => h) ⟨?_, ?_⟩
 ·rfl
 ·rfl
end Go.Proofs.Ytmbinhhlfbgiaaa
