/- contracts C47h -/
import Derived.Test.YtknibpmmjhmjeaaDoorC47g
namespace Go.Proofs.YtknibpmmjhmjeaaDoor
open Go.GV
set_option linter.unusedVariables false
set_option linter.unusedSimpArgs false

set_option maxRecDepth 20000 in
theorem f15_ok (s : Bytes) (w : World) : Calls Tryd.prog 15 #[vS s] w (Gives [] w fun v L => ∃ A : Option Addr, ∃ c : Nat, v = Value.tuple #[Value.agg #[vI ((R47.decode s).1), vI ((R47.decode s).2.1), Value.slice A ((R47.decode s).2.2.1.length) c], vI ((R47.decode s).2.2.2)] ∧ L = [Ent.row (.slice A ((R47.decode s).2.2.1).length c) 23 5 ((R47.decode s).2.2.1).length (((R47.decode s).2.2.1).flatMap Change.enc)]) := by
  refine calls_J [] 53 Tryd.func15 rfl Tryd.ntmps15 [(0, vS s)] rfl rfl (Give.nil w) ?_
  refine J_seq ?_
  refine J_region ?_
  refine JO_op rfl trivial (O_alloc Ty.ze29 rfl fun b1 => ?_)
  refine JO_read (vI 0) rfl trivial (fun _ _ => rfl) ?_
  refine JO_nil ?_
  refine JX_then ?_
  refine J_seq ?_
  refine J_seq ?_
  refine J_region ?_
  refine JO_read (vS s) rfl trivial (fun _ _ => rfl) ?_
  refine JO_read (vI ((s.length : Nat) : Int)) rfl trivial (fun _ _ => x_len_s rfl Tryd.underlying9) ?_
  refine JO_read (vB (decide ((16384 : Int) < ((s.length : Nat) : Int)))) rfl trivial (fun _ _ => x_gtr_i rfl rfl) ?_
  refine JO_nil ?_
  refine JX_then ?_
  refine J_cond (decide ((16384 : Int) < ((s.length : Nat) : Int))) rfl rfl (fun h2 => ?_) (fun h2 => ?_)
  · have h2w := h2
    have h2 := of_decide_eq_true h2
    refine J_seq ?_
    refine J_region ?_
    refine JO_read (Value.agg #[vI 0, vI 0, Value.slice none 0 0]) rfl trivial (fun _ _ => x_build (by kernel_rfl)) ?_
    refine JO_op rfl trivial (O_store 0 [vI 0, vI 0, Value.slice none 0 0] [Ent.blk b1 29 [vI 0, vI 0, Value.slice none 0 0]] rfl rfl rfl Ty.sz29 rfl (Nat.le_of_ble_eq_true rfl) rfl rfl rfl ?_)
    refine JO_read (vI 11) rfl trivial (fun _ _ => rfl) ?_
    refine JO_nil ?_
    refine JX_then ?_
    refine J_ret ?_
    refine JX_then_ret ?_
    first
      | have hd := R47.decode_long (s := s) (by omega)
      | have hd := R47.decode_bad (s := s) (by omega) i1_1 (show (k : Int) = (R47.count (R47.count (R47.count (Reader.mk s 0) 1099511627776).2 1099511627776).2 300).1 from by omega) (by assumption)
      | have hd := R47.decode_ok (s := s) (by omega) i1_1 (show (k : Int) = (R47.count (R47.count (R47.count (Reader.mk s 0) 1099511627776).2 1099511627776).2 300).1 from by omega) (by assumption)
    refine JX_rets [Value.agg #[vI 0, vI 0, Value.slice none 0 0], vI 11] (Value.tuple #[Value.agg #[vI 0, vI 0, Value.slice none 0 0], vI 11]) Tryd.results15 (fun w h => ⟨⟨_, rfl, load_blkN 0 [vI 0, vI 0, Value.slice none 0 0] h rfl Ty.ag29 Ty.sz29 rfl⟩, rfl, trivial⟩) rfl [Ent.row (.slice none ([] : List Change).length 0) 23 5 ([] : List Change).length (([] : List Change).flatMap Change.enc)] (fun _ h => (h.nilrow 23 5).keep [true, false] rfl) ⟨none, 0, ?_, ?_⟩
    · have e_x0 : (0 : Int) = ((R47.decode s).1) := by
        first | (rw [hd]; done) | (rw [hd]; rfl)
      have e_x1 : (0 : Int) = ((R47.decode s).2.1) := by
        first | (rw [hd]; done) | (rw [hd]; rfl)
      have e_x2 : (0 : Nat) = ((R47.decode s).2.2.1.length) := by
        first | (rw [hd]; done) | (rw [hd]; rfl)
      have e_x3 : (11 : Int) = ((R47.decode s).2.2.2) := by
        first | (rw [hd]; done) | (rw [hd]; rfl)
      have e_all := (congr (congr (congr (congrArg (fun (x0 : Int) (x1 : Int) (x2 : Nat) (x3 : Int) => Value.tuple #[Value.agg #[vI x0, vI x1, Value.slice none x2 0], vI x3]) e_x0) e_x1) e_x2) e_x3)
      exact e_all
    · have e_y0 : (([] : List Change) : List Change) = (R47.decode s).2.2.1 := by
        first | (rw [hd]; done) | (rw [hd]; rfl)
      have e_all := (congrArg (fun (y0 : List Change) => [Ent.row (.slice none y0.length 0) 23 5 y0.length (y0.flatMap Change.enc)]) e_y0)
      exact e_all
  · have h2w := h2
    have h2 := of_decide_eq_false h2
    refine J_skip ?_
    refine JX_then ?_
    refine J_seq ?_
    refine J_region ?_
    refine JO_read (vS s) rfl trivial (fun _ _ => rfl) ?_
    refine JO_call [] [] [Ent.blk b1 29 [vI 0, vI 0, Value.slice none 0 0]] rfl trivial (fun _ => x_call Ty.ca41 rfl) (fun _ h => h) (fun _ h => by cases h) (fun w hS => f41_ok s w) ?_
    rintro _ _ ⟨p3, rfl, rfl⟩
    refine JO_read (Value.pointer (some ⟨p3, 0, none⟩)) rfl trivial (fun _ _ => rfl) ?_
    refine JO_nil ?_
    refine JX_then ?_
    refine J_seq ?_
    refine J_region ?_
    refine JO_read (Value.pointer (some ⟨p3, 0, none⟩)) rfl trivial (fun _ _ => rfl) ?_
    refine JO_call [p3] [Ent.blk p3 76 [vS ((Reader.mk s 0).left), vI ((Reader.mk s 0).err)]] [Ent.blk b1 29 [vI 0, vI 0, Value.slice none 0 0]] rfl trivial (fun _ => x_call Ty.ca42 rfl) (fun _ h => h) (own_mem rfl) (fun w hS => f42_ok p3 1099511627776 (Reader.mk s 0) w hy_ hy_ (hS.give (own_in rfl))) ?_
    rintro _ _ ⟨rfl, rfl⟩
    have ha4 := R47.count_range (Reader.mk s 0) 1099511627776 (by omega)
    refine JO_read (Value.pointer (some ⟨p3, 0, none⟩)) rfl trivial (fun _ _ => rfl) ?_
    refine JO_call [p3] [Ent.blk p3 76 [vS (((R47.count (Reader.mk s 0) 1099511627776).2).left), vI (((R47.count (Reader.mk s 0) 1099511627776).2).err)]] [Ent.blk b1 29 [vI 0, vI 0, Value.slice none 0 0]] rfl trivial (fun _ => x_call Ty.ca42 rfl) (fun _ h => h) (own_mem rfl) (fun w hS => f42_ok p3 1099511627776 ((R47.count (Reader.mk s 0) 1099511627776).2) w hy_ hy_ (hS.give (own_in rfl))) ?_
    rintro _ _ ⟨rfl, rfl⟩
    have ha5 := R47.count_range ((R47.count (Reader.mk s 0) 1099511627776).2) 1099511627776 (by omega)
    refine JO_read (Value.agg #[vI ((R47.count (Reader.mk s 0) 1099511627776).1), vI ((R47.count ((R47.count (Reader.mk s 0) 1099511627776).2) 1099511627776).1), Value.slice none 0 0]) rfl trivial (fun _ _ => x_build (by kernel_rfl)) ?_
    refine JO_op rfl trivial (O_alloc Ty.ze29 rfl fun b6 => ?_)
    refine JO_op rfl trivial (O_store 0 [vI ((R47.count (Reader.mk s 0) 1099511627776).1), vI ((R47.count ((R47.count (Reader.mk s 0) 1099511627776).2) 1099511627776).1), Value.slice none 0 0] [Ent.blk b6 29 [vI ((R47.count (Reader.mk s 0) 1099511627776).1), vI ((R47.count ((R47.count (Reader.mk s 0) 1099511627776).2) 1099511627776).1), Value.slice none 0 0], Ent.blk p3 76 [vS (((R47.count ((R47.count (Reader.mk s 0) 1099511627776).2) 1099511627776).2).left), vI (((R47.count ((R47.count (Reader.mk s 0) 1099511627776).2) 1099511627776).2).err)], Ent.blk b1 29 [vI 0, vI 0, Value.slice none 0 0]] rfl rfl rfl Ty.sz29 rfl (Nat.le_of_ble_eq_true rfl) rfl rfl rfl ?_)
    refine JO_nil ?_
    refine JX_then ?_
    refine J_seq ?_
    refine J_seq ?_
    refine J_region ?_
    refine JO_read (Value.pointer (some ⟨p3, 0, none⟩)) rfl trivial (fun _ _ => rfl) ?_
    refine JO_call [p3] [Ent.blk p3 76 [vS (((R47.count ((R47.count (Reader.mk s 0) 1099511627776).2) 1099511627776).2).left), vI (((R47.count ((R47.count (Reader.mk s 0) 1099511627776).2) 1099511627776).2).err)]] [Ent.blk b6 29 [vI ((R47.count (Reader.mk s 0) 1099511627776).1), vI ((R47.count ((R47.count (Reader.mk s 0) 1099511627776).2) 1099511627776).1), Value.slice none 0 0], Ent.blk b1 29 [vI 0, vI 0, Value.slice none 0 0]] rfl trivial (fun _ => x_call Ty.ca42 rfl) (fun _ h => (((h.front 2 _ rfl).front 1 _ rfl).front 2 _ rfl).keep [true, true, true] rfl) (own_mem rfl) (fun w hS => f42_ok p3 300 ((R47.count ((R47.count (Reader.mk s 0) 1099511627776).2) 1099511627776).2) w hy_ hy_ (hS.give (own_in rfl))) ?_
    rintro _ _ ⟨rfl, rfl⟩
    have ha7 := R47.count_range ((R47.count ((R47.count (Reader.mk s 0) 1099511627776).2) 1099511627776).2) 300 (by omega)
    refine JO_read (vI 0) rfl trivial (fun _ _ => rfl) ?_
    refine JO_nil ?_
    refine JX_then ?_
    refine J_block ?_
    refine J_loop (X := Nat × (List Change) × (Option Addr) × Nat × Bytes × Int) (fun (⟨k, xs, xsA, xsC, lf, er⟩ : Nat × (List Change) × (Option Addr) × Nat × Bytes × Int) => ((k : Int) ≤ (R47.count (R47.count (R47.count (Reader.mk s 0) 1099511627776).2 1099511627776).2 300).1) ∧ (R47.many k (R47.count (R47.count (R47.count (Reader.mk s 0) 1099511627776).2 1099511627776).2 300).2 = (xs, Reader.mk lf er))) (fun (⟨k, xs, xsA, xsC, lf, er⟩ : Nat × (List Change) × (Option Addr) × Nat × Bytes × Int) => [(2, Value.pointer (some ⟨b1, 0, none⟩)), (3, vI 0), (4, Value.pointer (some ⟨p3, 0, none⟩)), (5, Value.pointer (some ⟨b6, 0, none⟩)), (19, vI ((R47.count ((R47.count ((R47.count (Reader.mk s 0) 1099511627776).2) 1099511627776).2) 300).1)), (20, vI ((k : Nat) : Int))]) (fun (⟨k, xs, xsA, xsC, lf, er⟩ : Nat × (List Change) × (Option Addr) × Nat × Bytes × Int) => [Ent.blk p3 76 [vS lf, vI er], Ent.blk b6 29 [vI ((R47.count (Reader.mk s 0) 1099511627776).1), vI ((R47.count ((R47.count (Reader.mk s 0) 1099511627776).2) 1099511627776).1), Value.slice xsA xs.length xsC], Ent.blk b1 29 [vI 0, vI 0, Value.slice none 0 0], Ent.row (.slice xsA xs.length xsC) 23 5 xs.length (xs.flatMap Change.enc)]) (fun (⟨k, xs, xsA, xsC, lf, er⟩ : Nat × (List Change) × (Option Addr) × Nat × Bytes × Int) => (R47.count (R47.count (R47.count (Reader.mk s 0) 1099511627776).2 1099511627776).2 300).1.toNat - k) ((0, ([] : List Change), none, 0, ((R47.count ((R47.count ((R47.count (Reader.mk s 0) 1099511627776).2) 1099511627776).2) 300).2).left, ((R47.count ((R47.count ((R47.count (Reader.mk s 0) 1099511627776).2) 1099511627776).2) 300).2).err) : Nat × (List Change) × (Option Addr) × Nat × Bytes × Int) ?_ ⟨rfl, rfl, rfl, rfl, rfl, rfl, trivial⟩ (fun _ h => ((((h.nilrow 23 5).front 3 _ rfl).front 3 _ rfl).front 3 _ rfl).keep [true, true, true, true] rfl) ?_
    · show ((0 : Int) ≤ (R47.count (R47.count (R47.count (Reader.mk s 0) 1099511627776).2 1099511627776).2 300).1) ∧ (R47.many 0 (R47.count (R47.count (R47.count (Reader.mk s 0) 1099511627776).2 1099511627776).2 300).2 = (([] : List Change), Reader.mk (((R47.count ((R47.count ((R47.count (Reader.mk s 0) 1099511627776).2) 1099511627776).2) 300).2).left) (((R47.count ((R47.count ((R47.count (Reader.mk s 0) 1099511627776).2) 1099511627776).2) 300).2).err)))
      refine ⟨?_, ?_⟩
      · first | rfl | omega | (simp_all; done) | (simp_all; omega)
      · rfl
    rintro ⟨k, xs, xsA, xsC, lf, er⟩ hI1
    obtain ⟨i1_0, i1_1⟩ : ((k : Int) ≤ (R47.count (R47.count (R47.count (Reader.mk s 0) 1099511627776).2 1099511627776).2 300).1) ∧ (R47.many k (R47.count (R47.count (R47.count (Reader.mk s 0) 1099511627776).2 1099511627776).2 300).2 = (xs, Reader.mk lf er)) := hI1
    have hV := R47.row_vol i1_1
    have hC := R47.row_len i1_1
    refine J_weaken (E' := [(2, Value.pointer (some ⟨b1, 0, none⟩)), (3, vI 0), (4, Value.pointer (some ⟨p3, 0, none⟩)), (5, Value.pointer (some ⟨b6, 0, none⟩)), (19, vI ((R47.count ((R47.count ((R47.count (Reader.mk s 0) 1099511627776).2) 1099511627776).2) 300).1)), (20, vI ((k : Nat) : Int))]) (L' := [Ent.blk p3 76 [vS lf, vI er], Ent.blk b6 29 [vI ((R47.count (Reader.mk s 0) 1099511627776).1), vI ((R47.count ((R47.count (Reader.mk s 0) 1099511627776).2) 1099511627776).1), Value.slice xsA xs.length xsC], Ent.blk b1 29 [vI 0, vI 0, Value.slice none 0 0], Ent.row (.slice xsA xs.length xsC) 23 5 xs.length (xs.flatMap Change.enc)]) ⟨rfl, rfl, rfl, rfl, rfl, rfl, trivial⟩ (fun _ h => h) ?_
    refine J_seq ?_
    refine J_region ?_
    refine JO_read (vB (decide (((k : Nat) : Int) < (R47.count ((R47.count ((R47.count (Reader.mk s 0) 1099511627776).2) 1099511627776).2) 300).1))) rfl trivial (fun _ _ => x_lss_i rfl rfl) ?_
    refine JO_nil ?_
    refine JX_then ?_
    refine J_seq ?_
    refine J_cond (decide (((k : Nat) : Int) < (R47.count ((R47.count ((R47.count (Reader.mk s 0) 1099511627776).2) 1099511627776).2) 300).1)) rfl rfl (fun h8 => ?_) (fun h8 => ?_)
    · have h8w := h8
      have h8 := of_decide_eq_true h8
      refine J_skip ?_
      refine JX_then ?_
      refine J_seq ?_
      refine J_block ?_
      refine J_seq ?_
      refine J_region ?_
      refine JO_read (Value.pointer (some ⟨p3, 0, none⟩)) rfl trivial (fun _ _ => rfl) ?_
      refine JO_call [p3] [Ent.blk p3 76 [vS ((Reader.mk lf er).left), vI ((Reader.mk lf er).err)]] [Ent.blk b6 29 [vI ((R47.count (Reader.mk s 0) 1099511627776).1), vI ((R47.count ((R47.count (Reader.mk s 0) 1099511627776).2) 1099511627776).1), Value.slice xsA xs.length xsC], Ent.blk b1 29 [vI 0, vI 0, Value.slice none 0 0], Ent.row (.slice xsA xs.length xsC) 23 5 xs.length (xs.flatMap Change.enc)] rfl trivial (fun _ => x_call Ty.ca42 rfl) (fun _ h => h) (own_mem rfl) (fun w hS => f42_ok p3 7 (Reader.mk lf er) w hy_ hy_ (hS.give (own_in rfl))) ?_
      rintro _ _ ⟨rfl, rfl⟩
      have ha9 := R47.count_range (Reader.mk lf er) 7 (by omega)
      refine JO_read (Value.pointer (some ⟨p3, 0, none⟩)) rfl trivial (fun _ _ => rfl) ?_
      refine JO_call [p3] [Ent.blk p3 76 [vS (((R47.count (Reader.mk lf er) 7).2).left), vI (((R47.count (Reader.mk lf er) 7).2).err)]] [Ent.blk b6 29 [vI ((R47.count (Reader.mk s 0) 1099511627776).1), vI ((R47.count ((R47.count (Reader.mk s 0) 1099511627776).2) 1099511627776).1), Value.slice xsA xs.length xsC], Ent.blk b1 29 [vI 0, vI 0, Value.slice none 0 0], Ent.row (.slice xsA xs.length xsC) 23 5 xs.length (xs.flatMap Change.enc)] rfl trivial (fun _ => x_call Ty.ca42 rfl) (fun _ h => h) (own_mem rfl) (fun w hS => f42_ok p3 1099511627776 ((R47.count (Reader.mk lf er) 7).2) w hy_ hy_ (hS.give (own_in rfl))) ?_
      rintro _ _ ⟨rfl, rfl⟩
      have ha10 := R47.count_range ((R47.count (Reader.mk lf er) 7).2) 1099511627776 (by omega)
      refine JO_read (Value.agg #[vI ((R47.count (Reader.mk lf er) 7).1), vI ((R47.count ((R47.count (Reader.mk lf er) 7).2) 1099511627776).1), vS [], vS [], vS []]) rfl trivial (fun _ _ => x_build (by kernel_rfl)) ?_
      refine JO_op rfl trivial (O_alloc Ty.ze23 rfl fun b11 => ?_)
      refine JO_op rfl trivial (O_storeS (vs := [vI ((R47.count (Reader.mk lf er) 7).1), vI ((R47.count ((R47.count (Reader.mk lf er) 7).2) 1099511627776).1), vS [], vS [], vS []]) 0 [vI ((R47.count (Reader.mk lf er) 7).1), vI ((R47.count ((R47.count (Reader.mk lf er) 7).2) 1099511627776).1), vS [], vS [], vS []] [Ent.blk b11 23 [vI ((R47.count (Reader.mk lf er) 7).1), vI ((R47.count ((R47.count (Reader.mk lf er) 7).2) 1099511627776).1), vS [], vS [], vS []], Ent.blk p3 76 [vS (((R47.count ((R47.count (Reader.mk lf er) 7).2) 1099511627776).2).left), vI (((R47.count ((R47.count (Reader.mk lf er) 7).2) 1099511627776).2).err)], Ent.blk b6 29 [vI ((R47.count (Reader.mk s 0) 1099511627776).1), vI ((R47.count ((R47.count (Reader.mk s 0) 1099511627776).2) 1099511627776).1), Value.slice xsA xs.length xsC], Ent.blk b1 29 [vI 0, vI 0, Value.slice none 0 0], Ent.row (.slice xsA xs.length xsC) 23 5 xs.length (xs.flatMap Change.enc)] rfl rfl rfl Ty.sz23 rfl (Nat.le_of_ble_eq_true rfl) rfl rfl rfl ?_)
      refine JO_nil ?_
      refine JX_then ?_
      refine J_seq ?_
      refine J_region ?_
      refine JO_read (Value.pointer (some ⟨p3, 0, none⟩)) rfl trivial (fun _ _ => rfl) ?_
      refine JO_call [p3] [Ent.blk p3 76 [vS (((R47.count ((R47.count (Reader.mk lf er) 7).2) 1099511627776).2).left), vI (((R47.count ((R47.count (Reader.mk lf er) 7).2) 1099511627776).2).err)]] [Ent.blk b11 23 [vI ((R47.count (Reader.mk lf er) 7).1), vI ((R47.count ((R47.count (Reader.mk lf er) 7).2) 1099511627776).1), vS [], vS [], vS []], Ent.blk b6 29 [vI ((R47.count (Reader.mk s 0) 1099511627776).1), vI ((R47.count ((R47.count (Reader.mk s 0) 1099511627776).2) 1099511627776).1), Value.slice xsA xs.length xsC], Ent.blk b1 29 [vI 0, vI 0, Value.slice none 0 0], Ent.row (.slice xsA xs.length xsC) 23 5 xs.length (xs.flatMap Change.enc)] rfl trivial (fun _ => x_call Ty.ca43 rfl) (fun _ h => (((((h.front 4 _ rfl).front 4 _ rfl).front 4 _ rfl).front 3 _ rfl).front 4 _ rfl).keep [true, true, true, true, true] rfl) (own_mem rfl) (fun w hS => f43_ok p3 32 ((R47.count ((R47.count (Reader.mk lf er) 7).2) 1099511627776).2) w hy_ hy_ (hS.give (own_in rfl))) ?_
      rintro _ _ ⟨rfl, rfl⟩
      have ha12 := R47.rtext_len ((R47.count ((R47.count (Reader.mk lf er) 7).2) 1099511627776).2) 32 (by omega)
      refine JO_read (Value.pointer (some ⟨b11, 2, none⟩)) rfl trivial (fun _ _ => x_fieldAddr Ty.fi23_2 rfl rfl) ?_
      refine JO_op rfl trivial (O_store 1 [vI ((R47.count (Reader.mk lf er) 7).1), vI ((R47.count ((R47.count (Reader.mk lf er) 7).2) 1099511627776).1), vS ((R47.rtext ((R47.count ((R47.count (Reader.mk lf er) 7).2) 1099511627776).2) 32).1), vS [], vS []] [Ent.blk p3 76 [vS (((R47.rtext ((R47.count ((R47.count (Reader.mk lf er) 7).2) 1099511627776).2) 32).2).left), vI (((R47.rtext ((R47.count ((R47.count (Reader.mk lf er) 7).2) 1099511627776).2) 32).2).err)], Ent.blk b11 23 [vI ((R47.count (Reader.mk lf er) 7).1), vI ((R47.count ((R47.count (Reader.mk lf er) 7).2) 1099511627776).1), vS ((R47.rtext ((R47.count ((R47.count (Reader.mk lf er) 7).2) 1099511627776).2) 32).1), vS [], vS []], Ent.blk b6 29 [vI ((R47.count (Reader.mk s 0) 1099511627776).1), vI ((R47.count ((R47.count (Reader.mk s 0) 1099511627776).2) 1099511627776).1), Value.slice xsA xs.length xsC], Ent.blk b1 29 [vI 0, vI 0, Value.slice none 0 0], Ent.row (.slice xsA xs.length xsC) 23 5 xs.length (xs.flatMap Change.enc)] rfl rfl rfl Ty.sz9 rfl (Nat.le_of_ble_eq_true rfl) rfl rfl rfl ?_)
      refine JO_nil ?_
      refine JX_then ?_
      refine J_seq ?_
      refine J_region ?_
      refine JO_read (Value.pointer (some ⟨p3, 0, none⟩)) rfl trivial (fun _ _ => rfl) ?_
      refine JO_call [p3] [Ent.blk p3 76 [vS (((R47.rtext ((R47.count ((R47.count (Reader.mk lf er) 7).2) 1099511627776).2) 32).2).left), vI (((R47.rtext ((R47.count ((R47.count (Reader.mk lf er) 7).2) 1099511627776).2) 32).2).err)]] [Ent.blk b11 23 [vI ((R47.count (Reader.mk lf er) 7).1), vI ((R47.count ((R47.count (Reader.mk lf er) 7).2) 1099511627776).1), vS ((R47.rtext ((R47.count ((R47.count (Reader.mk lf er) 7).2) 1099511627776).2) 32).1), vS [], vS []], Ent.blk b6 29 [vI ((R47.count (Reader.mk s 0) 1099511627776).1), vI ((R47.count ((R47.count (Reader.mk s 0) 1099511627776).2) 1099511627776).1), Value.slice xsA xs.length xsC], Ent.blk b1 29 [vI 0, vI 0, Value.slice none 0 0], Ent.row (.slice xsA xs.length xsC) 23 5 xs.length (xs.flatMap Change.enc)] rfl trivial (fun _ => x_call Ty.ca43 rfl) (fun _ h => h) (own_mem rfl) (fun w hS => f43_ok p3 1000 ((R47.rtext ((R47.count ((R47.count (Reader.mk lf er) 7).2) 1099511627776).2) 32).2) w hy_ hy_ (hS.give (own_in rfl))) ?_
      rintro _ _ ⟨rfl, rfl⟩
      have ha13 := R47.rtext_len ((R47.rtext ((R47.count ((R47.count (Reader.mk lf er) 7).2) 1099511627776).2) 32).2) 1000 (by omega)
      refine JO_read (Value.pointer (some ⟨b11, 3, none⟩)) rfl trivial (fun _ _ => x_fieldAddr Ty.fi23_3 rfl rfl) ?_
      refine JO_op rfl trivial (O_store 1 [vI ((R47.count (Reader.mk lf er) 7).1), vI ((R47.count ((R47.count (Reader.mk lf er) 7).2) 1099511627776).1), vS ((R47.rtext ((R47.count ((R47.count (Reader.mk lf er) 7).2) 1099511627776).2) 32).1), vS ((R47.rtext ((R47.rtext ((R47.count ((R47.count (Reader.mk lf er) 7).2) 1099511627776).2) 32).2) 1000).1), vS []] [Ent.blk p3 76 [vS (((R47.rtext ((R47.rtext ((R47.count ((R47.count (Reader.mk lf er) 7).2) 1099511627776).2) 32).2) 1000).2).left), vI (((R47.rtext ((R47.rtext ((R47.count ((R47.count (Reader.mk lf er) 7).2) 1099511627776).2) 32).2) 1000).2).err)], Ent.blk b11 23 [vI ((R47.count (Reader.mk lf er) 7).1), vI ((R47.count ((R47.count (Reader.mk lf er) 7).2) 1099511627776).1), vS ((R47.rtext ((R47.count ((R47.count (Reader.mk lf er) 7).2) 1099511627776).2) 32).1), vS ((R47.rtext ((R47.rtext ((R47.count ((R47.count (Reader.mk lf er) 7).2) 1099511627776).2) 32).2) 1000).1), vS []], Ent.blk b6 29 [vI ((R47.count (Reader.mk s 0) 1099511627776).1), vI ((R47.count ((R47.count (Reader.mk s 0) 1099511627776).2) 1099511627776).1), Value.slice xsA xs.length xsC], Ent.blk b1 29 [vI 0, vI 0, Value.slice none 0 0], Ent.row (.slice xsA xs.length xsC) 23 5 xs.length (xs.flatMap Change.enc)] rfl rfl rfl Ty.sz9 rfl (Nat.le_of_ble_eq_true rfl) rfl rfl rfl ?_)
      refine JO_nil ?_
      refine JX_then ?_
      refine J_seq ?_
      refine J_region ?_
      refine JO_read (Value.pointer (some ⟨p3, 0, none⟩)) rfl trivial (fun _ _ => rfl) ?_
      refine JO_call [p3] [Ent.blk p3 76 [vS (((R47.rtext ((R47.rtext ((R47.count ((R47.count (Reader.mk lf er) 7).2) 1099511627776).2) 32).2) 1000).2).left), vI (((R47.rtext ((R47.rtext ((R47.count ((R47.count (Reader.mk lf er) 7).2) 1099511627776).2) 32).2) 1000).2).err)]] [Ent.blk b11 23 [vI ((R47.count (Reader.mk lf er) 7).1), vI ((R47.count ((R47.count (Reader.mk lf er) 7).2) 1099511627776).1), vS ((R47.rtext ((R47.count ((R47.count (Reader.mk lf er) 7).2) 1099511627776).2) 32).1), vS ((R47.rtext ((R47.rtext ((R47.count ((R47.count (Reader.mk lf er) 7).2) 1099511627776).2) 32).2) 1000).1), vS []], Ent.blk b6 29 [vI ((R47.count (Reader.mk s 0) 1099511627776).1), vI ((R47.count ((R47.count (Reader.mk s 0) 1099511627776).2) 1099511627776).1), Value.slice xsA xs.length xsC], Ent.blk b1 29 [vI 0, vI 0, Value.slice none 0 0], Ent.row (.slice xsA xs.length xsC) 23 5 xs.length (xs.flatMap Change.enc)] rfl trivial (fun _ => x_call Ty.ca43 rfl) (fun _ h => h) (own_mem rfl) (fun w hS => f43_ok p3 31 ((R47.rtext ((R47.rtext ((R47.count ((R47.count (Reader.mk lf er) 7).2) 1099511627776).2) 32).2) 1000).2) w hy_ hy_ (hS.give (own_in rfl))) ?_
      rintro _ _ ⟨rfl, rfl⟩
      have ha14 := R47.rtext_len ((R47.rtext ((R47.rtext ((R47.count ((R47.count (Reader.mk lf er) 7).2) 1099511627776).2) 32).2) 1000).2) 31 (by omega)
      refine JO_read (Value.pointer (some ⟨b11, 4, none⟩)) rfl trivial (fun _ _ => x_fieldAddr Ty.fi23_4 rfl rfl) ?_
      refine JO_op rfl trivial (O_store 1 [vI ((R47.count (Reader.mk lf er) 7).1), vI ((R47.count ((R47.count (Reader.mk lf er) 7).2) 1099511627776).1), vS ((R47.rtext ((R47.count ((R47.count (Reader.mk lf er) 7).2) 1099511627776).2) 32).1), vS ((R47.rtext ((R47.rtext ((R47.count ((R47.count (Reader.mk lf er) 7).2) 1099511627776).2) 32).2) 1000).1), vS ((R47.rtext ((R47.rtext ((R47.rtext ((R47.count ((R47.count (Reader.mk lf er) 7).2) 1099511627776).2) 32).2) 1000).2) 31).1)] [Ent.blk p3 76 [vS (((R47.rtext ((R47.rtext ((R47.rtext ((R47.count ((R47.count (Reader.mk lf er) 7).2) 1099511627776).2) 32).2) 1000).2) 31).2).left), vI (((R47.rtext ((R47.rtext ((R47.rtext ((R47.count ((R47.count (Reader.mk lf er) 7).2) 1099511627776).2) 32).2) 1000).2) 31).2).err)], Ent.blk b11 23 [vI ((R47.count (Reader.mk lf er) 7).1), vI ((R47.count ((R47.count (Reader.mk lf er) 7).2) 1099511627776).1), vS ((R47.rtext ((R47.count ((R47.count (Reader.mk lf er) 7).2) 1099511627776).2) 32).1), vS ((R47.rtext ((R47.rtext ((R47.count ((R47.count (Reader.mk lf er) 7).2) 1099511627776).2) 32).2) 1000).1), vS ((R47.rtext ((R47.rtext ((R47.rtext ((R47.count ((R47.count (Reader.mk lf er) 7).2) 1099511627776).2) 32).2) 1000).2) 31).1)], Ent.blk b6 29 [vI ((R47.count (Reader.mk s 0) 1099511627776).1), vI ((R47.count ((R47.count (Reader.mk s 0) 1099511627776).2) 1099511627776).1), Value.slice xsA xs.length xsC], Ent.blk b1 29 [vI 0, vI 0, Value.slice none 0 0], Ent.row (.slice xsA xs.length xsC) 23 5 xs.length (xs.flatMap Change.enc)] rfl rfl rfl Ty.sz9 rfl (Nat.le_of_ble_eq_true rfl) rfl rfl rfl ?_)
      refine JO_nil ?_
      refine JX_then ?_
      refine J_region ?_
      refine JO_read (Value.pointer (some ⟨b6, 2, none⟩)) rfl trivial (fun _ _ => x_fieldAddr Ty.fi29_2 rfl rfl) ?_
      refine JO_read (Value.slice xsA xs.length xsC) rfl trivial (x_load 2 rfl rfl Ty.sc27 rfl) ?_
      refine JO_read (Value.agg #[vI ((R47.count (Reader.mk lf er) 7).1), vI ((R47.count ((R47.count (Reader.mk lf er) 7).2) 1099511627776).1), vS ((R47.rtext ((R47.count ((R47.count (Reader.mk lf er) 7).2) 1099511627776).2) 32).1), vS ((R47.rtext ((R47.rtext ((R47.count ((R47.count (Reader.mk lf er) 7).2) 1099511627776).2) 32).2) 1000).1), vS ((R47.rtext ((R47.rtext ((R47.rtext ((R47.count ((R47.count (Reader.mk lf er) 7).2) 1099511627776).2) 32).2) 1000).2) 31).1)]) rfl trivial (x_loadN 1 [vI ((R47.count (Reader.mk lf er) 7).1), vI ((R47.count ((R47.count (Reader.mk lf er) 7).2) 1099511627776).1), vS ((R47.rtext ((R47.count ((R47.count (Reader.mk lf er) 7).2) 1099511627776).2) 32).1), vS ((R47.rtext ((R47.rtext ((R47.count ((R47.count (Reader.mk lf er) 7).2) 1099511627776).2) 32).2) 1000).1), vS ((R47.rtext ((R47.rtext ((R47.rtext ((R47.count ((R47.count (Reader.mk lf er) 7).2) 1099511627776).2) 32).2) 1000).2) 31).1)] rfl rfl Ty.ag23 Ty.sz23 rfl) ?_
      refine JO_op rfl trivial (O_buildSlice (cs := [vI ((R47.count (Reader.mk lf er) 7).1), vI ((R47.count ((R47.count (Reader.mk lf er) 7).2) 1099511627776).1), vS ((R47.rtext ((R47.count ((R47.count (Reader.mk lf er) 7).2) 1099511627776).2) 32).1), vS ((R47.rtext ((R47.rtext ((R47.count ((R47.count (Reader.mk lf er) 7).2) 1099511627776).2) 32).2) 1000).1), vS ((R47.rtext ((R47.rtext ((R47.rtext ((R47.count ((R47.count (Reader.mk lf er) 7).2) 1099511627776).2) 32).2) 1000).2) 31).1)]) Tryd.underlying27 Ty.sz23 Ty.ze23 (by decide) (by decide) (by kernel_rfl) fun b15 => ?_)
      refine JO_op rfl trivial (O_append_f 5 Change.enc 5 xs [(Change.mk ((R47.count (Reader.mk lf er) 7).1) ((R47.count ((R47.count (Reader.mk lf er) 7).2) 1099511627776).1) ((R47.rtext ((R47.count ((R47.count (Reader.mk lf er) 7).2) 1099511627776).2) 32).1) ((R47.rtext ((R47.rtext ((R47.count ((R47.count (Reader.mk lf er) 7).2) 1099511627776).2) 32).2) 1000).1) ((R47.rtext ((R47.rtext ((R47.rtext ((R47.count ((R47.count (Reader.mk lf er) 7).2) 1099511627776).2) 32).2) 1000).2) 31).1))] Tryd.underlying27 Ty.sz23 Ty.by23 Ty.ze23 rfl (by decide) rfl rfl rfl rfl Change.enc_len Change.enc_one (cells_blk 0 (off := 0) (m := 5) rfl rfl) lt_ lt_ fun A16 c17 => ?_)
      refine JO_read (Value.pointer (some ⟨b6, 2, none⟩)) rfl trivial (fun _ _ => x_fieldAddr Ty.fi29_2 rfl rfl) ?_
      refine JO_op rfl trivial (O_store 3 [vI ((R47.count (Reader.mk s 0) 1099511627776).1), vI ((R47.count ((R47.count (Reader.mk s 0) 1099511627776).2) 1099511627776).1), Value.slice A16 ((xs ++ [(Change.mk ((R47.count (Reader.mk lf er) 7).1) ((R47.count ((R47.count (Reader.mk lf er) 7).2) 1099511627776).1) ((R47.rtext ((R47.count ((R47.count (Reader.mk lf er) 7).2) 1099511627776).2) 32).1) ((R47.rtext ((R47.rtext ((R47.count ((R47.count (Reader.mk lf er) 7).2) 1099511627776).2) 32).2) 1000).1) ((R47.rtext ((R47.rtext ((R47.rtext ((R47.count ((R47.count (Reader.mk lf er) 7).2) 1099511627776).2) 32).2) 1000).2) 31).1))]).length) c17] [Ent.blk b15 23 [vI ((R47.count (Reader.mk lf er) 7).1), vI ((R47.count ((R47.count (Reader.mk lf er) 7).2) 1099511627776).1), vS ((R47.rtext ((R47.count ((R47.count (Reader.mk lf er) 7).2) 1099511627776).2) 32).1), vS ((R47.rtext ((R47.rtext ((R47.count ((R47.count (Reader.mk lf er) 7).2) 1099511627776).2) 32).2) 1000).1), vS ((R47.rtext ((R47.rtext ((R47.rtext ((R47.count ((R47.count (Reader.mk lf er) 7).2) 1099511627776).2) 32).2) 1000).2) 31).1)], Ent.blk p3 76 [vS (((R47.rtext ((R47.rtext ((R47.rtext ((R47.count ((R47.count (Reader.mk lf er) 7).2) 1099511627776).2) 32).2) 1000).2) 31).2).left), vI (((R47.rtext ((R47.rtext ((R47.rtext ((R47.count ((R47.count (Reader.mk lf er) 7).2) 1099511627776).2) 32).2) 1000).2) 31).2).err)], Ent.blk b11 23 [vI ((R47.count (Reader.mk lf er) 7).1), vI ((R47.count ((R47.count (Reader.mk lf er) 7).2) 1099511627776).1), vS ((R47.rtext ((R47.count ((R47.count (Reader.mk lf er) 7).2) 1099511627776).2) 32).1), vS ((R47.rtext ((R47.rtext ((R47.count ((R47.count (Reader.mk lf er) 7).2) 1099511627776).2) 32).2) 1000).1), vS ((R47.rtext ((R47.rtext ((R47.rtext ((R47.count ((R47.count (Reader.mk lf er) 7).2) 1099511627776).2) 32).2) 1000).2) 31).1)], Ent.blk b6 29 [vI ((R47.count (Reader.mk s 0) 1099511627776).1), vI ((R47.count ((R47.count (Reader.mk s 0) 1099511627776).2) 1099511627776).1), Value.slice A16 ((xs ++ [(Change.mk ((R47.count (Reader.mk lf er) 7).1) ((R47.count ((R47.count (Reader.mk lf er) 7).2) 1099511627776).1) ((R47.rtext ((R47.count ((R47.count (Reader.mk lf er) 7).2) 1099511627776).2) 32).1) ((R47.rtext ((R47.rtext ((R47.count ((R47.count (Reader.mk lf er) 7).2) 1099511627776).2) 32).2) 1000).1) ((R47.rtext ((R47.rtext ((R47.rtext ((R47.count ((R47.count (Reader.mk lf er) 7).2) 1099511627776).2) 32).2) 1000).2) 31).1))]).length) c17], Ent.blk b1 29 [vI 0, vI 0, Value.slice none 0 0], Ent.row (.slice A16 (xs ++ [(Change.mk ((R47.count (Reader.mk lf er) 7).1) ((R47.count ((R47.count (Reader.mk lf er) 7).2) 1099511627776).1) ((R47.rtext ((R47.count ((R47.count (Reader.mk lf er) 7).2) 1099511627776).2) 32).1) ((R47.rtext ((R47.rtext ((R47.count ((R47.count (Reader.mk lf er) 7).2) 1099511627776).2) 32).2) 1000).1) ((R47.rtext ((R47.rtext ((R47.rtext ((R47.count ((R47.count (Reader.mk lf er) 7).2) 1099511627776).2) 32).2) 1000).2) 31).1))]).length c17) 23 5 (xs ++ [(Change.mk ((R47.count (Reader.mk lf er) 7).1) ((R47.count ((R47.count (Reader.mk lf er) 7).2) 1099511627776).1) ((R47.rtext ((R47.count ((R47.count (Reader.mk lf er) 7).2) 1099511627776).2) 32).1) ((R47.rtext ((R47.rtext ((R47.count ((R47.count (Reader.mk lf er) 7).2) 1099511627776).2) 32).2) 1000).1) ((R47.rtext ((R47.rtext ((R47.rtext ((R47.count ((R47.count (Reader.mk lf er) 7).2) 1099511627776).2) 32).2) 1000).2) 31).1))]).length ((xs ++ [(Change.mk ((R47.count (Reader.mk lf er) 7).1) ((R47.count ((R47.count (Reader.mk lf er) 7).2) 1099511627776).1) ((R47.rtext ((R47.count ((R47.count (Reader.mk lf er) 7).2) 1099511627776).2) 32).1) ((R47.rtext ((R47.rtext ((R47.count ((R47.count (Reader.mk lf er) 7).2) 1099511627776).2) 32).2) 1000).1) ((R47.rtext ((R47.rtext ((R47.rtext ((R47.count ((R47.count (Reader.mk lf er) 7).2) 1099511627776).2) 32).2) 1000).2) 31).1))]).flatMap Change.enc)] rfl rfl rfl Ty.sz27 rfl (Nat.le_of_ble_eq_true rfl) rfl rfl rfl ?_)
      refine JO_nil ?_
      refine JX_block ?_
      refine JX_then ?_
      refine J_region ?_
      refine JO_read (vI ((k + 1 : Nat) : Int)) rfl trivial (fun _ _ => x_add_n (a := k) (b := 1) rfl rfl (by omega)) ?_
      refine JO_read (vI ((k + 1 : Nat) : Int)) rfl trivial (fun _ _ => rfl) ?_
      refine JO_nil ?_
      refine JX_round ((k + 1, xs ++ [(Change.mk ((R47.count (Reader.mk lf er) 7).1) ((R47.count ((R47.count (Reader.mk lf er) 7).2) 1099511627776).1) ((R47.rtext ((R47.count ((R47.count (Reader.mk lf er) 7).2) 1099511627776).2) 32).1) ((R47.rtext ((R47.rtext ((R47.count ((R47.count (Reader.mk lf er) 7).2) 1099511627776).2) 32).2) 1000).1) ((R47.rtext ((R47.rtext ((R47.rtext ((R47.count ((R47.count (Reader.mk lf er) 7).2) 1099511627776).2) 32).2) 1000).2) 31).1))], A16, c17, ((R47.rtext ((R47.rtext ((R47.rtext ((R47.count ((R47.count (Reader.mk lf er) 7).2) 1099511627776).2) 32).2) 1000).2) 31).2).left, ((R47.rtext ((R47.rtext ((R47.rtext ((R47.count ((R47.count (Reader.mk lf er) 7).2) 1099511627776).2) 32).2) 1000).2) 31).2).err) : Nat × (List Change) × (Option Addr) × Nat × Bytes × Int) ?_ ?_ ⟨rfl, rfl, rfl, rfl, rfl, rfl, trivial⟩ (fun _ h => h.keep [false, true, false, true, true, true] rfl)
      · show (((k + 1) : Int) ≤ (R47.count (R47.count (R47.count (Reader.mk s 0) 1099511627776).2 1099511627776).2 300).1) ∧ (R47.many (k + 1) (R47.count (R47.count (R47.count (Reader.mk s 0) 1099511627776).2 1099511627776).2 300).2 = ((xs ++ [(Change.mk ((R47.count (Reader.mk lf er) 7).1) ((R47.count ((R47.count (Reader.mk lf er) 7).2) 1099511627776).1) ((R47.rtext ((R47.count ((R47.count (Reader.mk lf er) 7).2) 1099511627776).2) 32).1) ((R47.rtext ((R47.rtext ((R47.count ((R47.count (Reader.mk lf er) 7).2) 1099511627776).2) 32).2) 1000).1) ((R47.rtext ((R47.rtext ((R47.rtext ((R47.count ((R47.count (Reader.mk lf er) 7).2) 1099511627776).2) 32).2) 1000).2) 31).1))]), Reader.mk (((R47.rtext ((R47.rtext ((R47.rtext ((R47.count ((R47.count (Reader.mk lf er) 7).2) 1099511627776).2) 32).2) 1000).2) 31).2).left) (((R47.rtext ((R47.rtext ((R47.rtext ((R47.count ((R47.count (Reader.mk lf er) 7).2) 1099511627776).2) 32).2) 1000).2) 31).2).err)))
        refine ⟨?_, ?_⟩
        · first | rfl | omega | (simp_all; done) | (simp_all; omega)
        · exact R47.many_step i1_1
      · show (R47.count (R47.count (R47.count (Reader.mk s 0) 1099511627776).2 1099511627776).2 300).1.toNat - (k + 1) < (R47.count (R47.count (R47.count (Reader.mk s 0) 1099511627776).2 1099511627776).2 300).1.toNat - k
        first | omega | (simp; omega) | (simp_all; omega)
    · have h8w := h8
      have h8 := of_decide_eq_false h8
      refine J_exit ?_
      refine JX_then_exit ?_
      refine JX_round_exit ?_
      refine JX_block_hit ?_
      refine JX_then ?_
      refine J_seq ?_
      refine J_seq ?_
      refine J_region ?_
      refine JO_read (Value.pointer (some ⟨p3, 0, none⟩)) rfl trivial (fun _ _ => rfl) ?_
      refine JO_call [p3] [Ent.blk p3 76 [vS ((Reader.mk lf er).left), vI ((Reader.mk lf er).err)]] [Ent.blk b6 29 [vI ((R47.count (Reader.mk s 0) 1099511627776).1), vI ((R47.count ((R47.count (Reader.mk s 0) 1099511627776).2) 1099511627776).1), Value.slice xsA xs.length xsC], Ent.blk b1 29 [vI 0, vI 0, Value.slice none 0 0], Ent.row (.slice xsA xs.length xsC) 23 5 xs.length (xs.flatMap Change.enc)] rfl trivial (fun _ => x_call Ty.ca44 rfl) (fun _ h => h) (own_mem rfl) (fun w hS => f44_ok p3 (Reader.mk lf er) w  (hS.give (own_in rfl))) ?_
      rintro _ _ ⟨rfl, rfl⟩
      refine JO_read (vB (decide (R47.fin (Reader.mk lf er) ≠ 0))) rfl trivial (fun _ _ => x_neq_i rfl rfl) ?_
      refine JO_read (vB (decide (R47.fin (Reader.mk lf er) ≠ 0))) rfl trivial (fun _ _ => rfl) ?_
      refine JO_cut (X := Bool) 4 (fun z => z = ((decide (R47.fin (Reader.mk lf er) ≠ 0)) || (!(R47.sound ((R47.count (Reader.mk s 0) 1099511627776).1) ((R47.count ((R47.count (Reader.mk s 0) 1099511627776).2) 1099511627776).1) xs)))) (fun z => [(2, Value.pointer (some ⟨b1, 0, none⟩)), (3, vI 0), (5, Value.pointer (some ⟨b6, 0, none⟩)), (50, vB z)]) (fun _ => [Ent.blk p3 76 [vS ((Reader.mk lf er).left), vI ((Reader.mk lf er).err)], Ent.blk b6 29 [vI ((R47.count (Reader.mk s 0) 1099511627776).1), vI ((R47.count ((R47.count (Reader.mk s 0) 1099511627776).2) 1099511627776).1), Value.slice xsA xs.length xsC], Ent.blk b1 29 [vI 0, vI 0, Value.slice none 0 0], Ent.row (.slice xsA xs.length xsC) 23 5 xs.length (xs.flatMap Change.enc)]) ?_ ?_
      · rcases Bool.eq_false_or_eq_true (decide (R47.fin (Reader.mk lf er) ≠ 0)) with g19 | g19
        · have g19r := g19
          have g19r := of_decide_eq_true g19r
          refine JO_shun rfl ⟨_, rfl, g19⟩ ?_
          refine JO_shun rfl ⟨_, rfl, g19⟩ ?_
          refine JO_shun rfl ⟨_, rfl, g19⟩ ?_
          refine JO_read (vB true) rfl trivial (fun _ _ => x_pick_t rfl g19 rfl) ?_
          refine JO_nil (JX_cut (true) (by rw [g19]; simp) ⟨rfl, rfl, rfl, rfl, trivial⟩ (fun _ h => h))
        · have g19r := g19
          have g19r := of_decide_eq_false g19r
          refine JO_read (Value.agg #[vI ((R47.count (Reader.mk s 0) 1099511627776).1), vI ((R47.count ((R47.count (Reader.mk s 0) 1099511627776).2) 1099511627776).1), Value.slice xsA xs.length xsC]) rfl ⟨_, rfl, g19⟩ (x_loadN 1 [vI ((R47.count (Reader.mk s 0) 1099511627776).1), vI ((R47.count ((R47.count (Reader.mk s 0) 1099511627776).2) 1099511627776).1), Value.slice xsA xs.length xsC] rfl rfl Ty.ag29 Ty.sz29 rfl) ?_
          refine JO_call [] [] [Ent.blk p3 76 [vS ((Reader.mk lf er).left), vI ((Reader.mk lf er).err)], Ent.blk b6 29 [vI ((R47.count (Reader.mk s 0) 1099511627776).1), vI ((R47.count ((R47.count (Reader.mk s 0) 1099511627776).2) 1099511627776).1), Value.slice xsA xs.length xsC], Ent.blk b1 29 [vI 0, vI 0, Value.slice none 0 0], Ent.row (.slice xsA xs.length xsC) 23 5 xs.length (xs.flatMap Change.enc)] rfl ⟨_, rfl, g19⟩ (fun _ => x_call Ty.ca45 rfl) (fun _ h => h) (fun _ h => by cases h) (fun w hS => f45_ok ((R47.count (Reader.mk s 0) 1099511627776).1) ((R47.count ((R47.count (Reader.mk s 0) 1099511627776).2) 1099511627776).1) xs xsA xsC w (RO.of_row hS 3 rfl) hy_ hy_) ?_
          rintro _ _ ⟨rfl, rfl⟩
          refine JO_read (vB (!(R47.sound ((R47.count (Reader.mk s 0) 1099511627776).1) ((R47.count ((R47.count (Reader.mk s 0) 1099511627776).2) 1099511627776).1) xs))) rfl ⟨_, rfl, g19⟩ (fun _ _ => x_not rfl) ?_
          refine JO_read (vB (!(R47.sound ((R47.count (Reader.mk s 0) 1099511627776).1) ((R47.count ((R47.count (Reader.mk s 0) 1099511627776).2) 1099511627776).1) xs))) rfl trivial (fun _ _ => x_pick_f rfl g19 rfl) ?_
          refine JO_nil (JX_cut (!(R47.sound ((R47.count (Reader.mk s 0) 1099511627776).1) ((R47.count ((R47.count (Reader.mk s 0) 1099511627776).2) 1099511627776).1) xs)) (by rw [g19]; simp) ⟨rfl, rfl, rfl, rfl, trivial⟩ (fun _ h => h))
      rintro z18 rfl
      refine JO_nil ?_
      refine JX_then ?_
      refine J_cond ((decide (R47.fin (Reader.mk lf er) ≠ 0)) || (!(R47.sound ((R47.count (Reader.mk s 0) 1099511627776).1) ((R47.count ((R47.count (Reader.mk s 0) 1099511627776).2) 1099511627776).1) xs))) rfl rfl (fun h20 => ?_) (fun h20 => ?_)
      · have h20w := h20
        simp only [Bool.and_eq_true, Bool.or_eq_true, Bool.and_eq_false_iff, Bool.or_eq_false_iff, Bool.not_eq_true', Bool.not_eq_false', decide_eq_true_eq, decide_eq_false_iff_not] at h20
        refine J_seq ?_
        refine J_region ?_
        refine JO_read (Value.agg #[vI 0, vI 0, Value.slice none 0 0]) rfl trivial (fun _ _ => x_build (by kernel_rfl)) ?_
        refine JO_op rfl trivial (O_store 2 [vI 0, vI 0, Value.slice none 0 0] [Ent.blk p3 76 [vS ((Reader.mk lf er).left), vI ((Reader.mk lf er).err)], Ent.blk b6 29 [vI ((R47.count (Reader.mk s 0) 1099511627776).1), vI ((R47.count ((R47.count (Reader.mk s 0) 1099511627776).2) 1099511627776).1), Value.slice xsA xs.length xsC], Ent.blk b1 29 [vI 0, vI 0, Value.slice none 0 0], Ent.row (.slice xsA xs.length xsC) 23 5 xs.length (xs.flatMap Change.enc)] rfl rfl rfl Ty.sz29 rfl (Nat.le_of_ble_eq_true rfl) rfl rfl rfl ?_)
        refine JO_read (vI 11) rfl trivial (fun _ _ => rfl) ?_
        refine JO_nil ?_
        refine JX_then ?_
        refine J_ret ?_
        refine JX_then_ret ?_
        first
          | have hd := R47.decode_long (s := s) (by omega)
          | have hd := R47.decode_bad (s := s) (by omega) i1_1 (show (k : Int) = (R47.count (R47.count (R47.count (Reader.mk s 0) 1099511627776).2 1099511627776).2 300).1 from by omega) (by assumption)
          | have hd := R47.decode_ok (s := s) (by omega) i1_1 (show (k : Int) = (R47.count (R47.count (R47.count (Reader.mk s 0) 1099511627776).2 1099511627776).2 300).1 from by omega) (by assumption)
        refine JX_rets [Value.agg #[vI 0, vI 0, Value.slice none 0 0], vI 11] (Value.tuple #[Value.agg #[vI 0, vI 0, Value.slice none 0 0], vI 11]) Tryd.results15 (fun w h => ⟨⟨_, rfl, load_blkN 2 [vI 0, vI 0, Value.slice none 0 0] h rfl Ty.ag29 Ty.sz29 rfl⟩, rfl, trivial⟩) rfl [Ent.row (.slice none ([] : List Change).length 0) 23 5 ([] : List Change).length (([] : List Change).flatMap Change.enc)] (fun _ h => (h.nilrow 23 5).keep [true, false, false, false, false] rfl) ⟨none, 0, ?_, ?_⟩
        · have e_x0 : (0 : Int) = ((R47.decode s).1) := by
            first | (rw [hd]; done) | (rw [hd]; rfl)
          have e_x1 : (0 : Int) = ((R47.decode s).2.1) := by
            first | (rw [hd]; done) | (rw [hd]; rfl)
          have e_x2 : (0 : Nat) = ((R47.decode s).2.2.1.length) := by
            first | (rw [hd]; done) | (rw [hd]; rfl)
          have e_x3 : (11 : Int) = ((R47.decode s).2.2.2) := by
            first | (rw [hd]; done) | (rw [hd]; rfl)
          have e_all := (congr (congr (congr (congrArg (fun (x0 : Int) (x1 : Int) (x2 : Nat) (x3 : Int) => Value.tuple #[Value.agg #[vI x0, vI x1, Value.slice none x2 0], vI x3]) e_x0) e_x1) e_x2) e_x3)
          exact e_all
        · have e_y0 : (([] : List Change) : List Change) = (R47.decode s).2.2.1 := by
            first | (rw [hd]; done) | (rw [hd]; rfl)
          have e_all := (congrArg (fun (y0 : List Change) => [Ent.row (.slice none y0.length 0) 23 5 y0.length (y0.flatMap Change.enc)]) e_y0)
          exact e_all
      · have h20w := h20
        have ⟨h20, h21⟩ := bor_false h20
        have h20 := of_decide_eq_false h20
        have h21 : (R47.sound ((R47.count (Reader.mk s 0) 1099511627776).1) ((R47.count ((R47.count (Reader.mk s 0) 1099511627776).2) 1099511627776).1) xs) = true := bnot_false h21
        have hi22 := R47.sound_facts h21
        refine J_skip ?_
        refine JX_then ?_
        refine J_seq ?_
        refine J_region ?_
        refine JO_read (Value.agg #[vI ((R47.count (Reader.mk s 0) 1099511627776).1), vI ((R47.count ((R47.count (Reader.mk s 0) 1099511627776).2) 1099511627776).1), Value.slice xsA xs.length xsC]) rfl trivial (x_loadN 1 [vI ((R47.count (Reader.mk s 0) 1099511627776).1), vI ((R47.count ((R47.count (Reader.mk s 0) 1099511627776).2) 1099511627776).1), Value.slice xsA xs.length xsC] rfl rfl Ty.ag29 Ty.sz29 rfl) ?_
        refine JO_op rfl trivial (O_store 2 [vI ((R47.count (Reader.mk s 0) 1099511627776).1), vI ((R47.count ((R47.count (Reader.mk s 0) 1099511627776).2) 1099511627776).1), Value.slice xsA xs.length xsC] [Ent.blk p3 76 [vS ((Reader.mk lf er).left), vI ((Reader.mk lf er).err)], Ent.blk b6 29 [vI ((R47.count (Reader.mk s 0) 1099511627776).1), vI ((R47.count ((R47.count (Reader.mk s 0) 1099511627776).2) 1099511627776).1), Value.slice xsA xs.length xsC], Ent.blk b1 29 [vI ((R47.count (Reader.mk s 0) 1099511627776).1), vI ((R47.count ((R47.count (Reader.mk s 0) 1099511627776).2) 1099511627776).1), Value.slice xsA xs.length xsC], Ent.row (.slice xsA xs.length xsC) 23 5 xs.length (xs.flatMap Change.enc)] rfl rfl rfl Ty.sz29 rfl (Nat.le_of_ble_eq_true rfl) rfl rfl rfl ?_)
        refine JO_read (vI 0) rfl trivial (fun _ _ => rfl) ?_
        refine JO_nil ?_
        refine JX_then ?_
        refine J_ret ?_
        first
          | have hd := R47.decode_long (s := s) (by omega)
          | have hd := R47.decode_bad (s := s) (by omega) i1_1 (show (k : Int) = (R47.count (R47.count (R47.count (Reader.mk s 0) 1099511627776).2 1099511627776).2 300).1 from by omega) (by assumption)
          | have hd := R47.decode_ok (s := s) (by omega) i1_1 (show (k : Int) = (R47.count (R47.count (R47.count (Reader.mk s 0) 1099511627776).2 1099511627776).2 300).1 from by omega) (by assumption)
        refine JX_rets [Value.agg #[vI ((R47.count (Reader.mk s 0) 1099511627776).1), vI ((R47.count ((R47.count (Reader.mk s 0) 1099511627776).2) 1099511627776).1), Value.slice xsA xs.length xsC], vI 0] (Value.tuple #[Value.agg #[vI ((R47.count (Reader.mk s 0) 1099511627776).1), vI ((R47.count ((R47.count (Reader.mk s 0) 1099511627776).2) 1099511627776).1), Value.slice xsA xs.length xsC], vI 0]) Tryd.results15 (fun w h => ⟨⟨_, rfl, load_blkN 2 [vI ((R47.count (Reader.mk s 0) 1099511627776).1), vI ((R47.count ((R47.count (Reader.mk s 0) 1099511627776).2) 1099511627776).1), Value.slice xsA xs.length xsC] h rfl Ty.ag29 Ty.sz29 rfl⟩, rfl, trivial⟩) rfl [Ent.row (.slice xsA xs.length xsC) 23 5 xs.length (xs.flatMap Change.enc)] (fun _ h => h.keep [false, false, false, true] rfl) ⟨xsA, xsC, ?_, ?_⟩
        · have e_x0 : ((R47.count (Reader.mk s 0) 1099511627776).1 : Int) = ((R47.decode s).1) := by
            first | (rw [hd]; done) | (rw [hd]; rfl)
          have e_x1 : ((R47.count ((R47.count (Reader.mk s 0) 1099511627776).2) 1099511627776).1 : Int) = ((R47.decode s).2.1) := by
            first | (rw [hd]; done) | (rw [hd]; rfl)
          have e_x2 : (xs.length : Nat) = ((R47.decode s).2.2.1.length) := by
            first | (rw [hd]; done) | (rw [hd]; rfl)
          have e_x3 : (0 : Int) = ((R47.decode s).2.2.2) := by
            first | (rw [hd]; done) | (rw [hd]; rfl)
          have e_all := (congr (congr (congr (congrArg (fun (x0 : Int) (x1 : Int) (x2 : Nat) (x3 : Int) => Value.tuple #[Value.agg #[vI x0, vI x1, Value.slice xsA x2 xsC], vI x3]) e_x0) e_x1) e_x2) e_x3)
          exact e_all
        · have e_y0 : (xs : List Change) = (R47.decode s).2.2.1 := by
            first | (rw [hd]; done) | (rw [hd]; rfl)
          have e_all := (congrArg (fun (y0 : List Change) => [Ent.row (.slice xsA y0.length xsC) 23 5 y0.length (y0.flatMap Change.enc)]) e_y0)
          exact e_all

set_option maxRecDepth 20000 in
theorem f46_ok (a : List Change) (aA : Option Addr) (aC : Nat) (b : List Change) (bA : Option Addr) (bC : Nat) (w : World) (aR : RO [] w aA (a.flatMap Change.enc)) (bR : RO [] w bA (b.flatMap Change.enc)) (q0 : a.length ≤ 9223372036854775807) : Calls Tryd.prog 46 #[Value.slice aA a.length aC, Value.slice bA b.length bC] w (Gives [] w fun v L => v = vB (decide (a = b)) ∧ L = []) := by
  refine calls_J [] 26 Tryd.func46 rfl Tryd.ntmps46 [(0, Value.slice aA a.length aC), (1, Value.slice bA b.length bC)] rfl rfl (Give.nil w) ?_
  refine J_seq ?_
  refine J_region ?_
  refine JO_read (vB false) rfl trivial (fun _ _ => rfl) ?_
  refine JO_nil ?_
  refine JX_then ?_
  refine J_seq ?_
  refine J_seq ?_
  refine J_region ?_
  refine JO_read (Value.slice aA a.length aC) rfl trivial (fun _ _ => rfl) ?_
  refine JO_read (vI ((a.length : Nat) : Int)) rfl trivial (fun _ _ => x_len_sl Tryd.underlying27 rfl) ?_
  refine JO_read (Value.slice bA b.length bC) rfl trivial (fun _ _ => rfl) ?_
  refine JO_read (vI ((b.length : Nat) : Int)) rfl trivial (fun _ _ => x_len_sl Tryd.underlying27 rfl) ?_
  refine JO_read (vB (decide (((a.length : Nat) : Int) ≠ ((b.length : Nat) : Int)))) rfl trivial (fun _ _ => x_neq_i rfl rfl) ?_
  refine JO_nil ?_
  refine JX_then ?_
  refine J_cond (decide (((a.length : Nat) : Int) ≠ ((b.length : Nat) : Int))) rfl rfl (fun h1 => ?_) (fun h1 => ?_)
  · have h1 := of_decide_eq_true h1
    refine J_seq ?_
    refine J_region ?_
    refine JO_read (vB false) rfl trivial (fun _ _ => rfl) ?_
    refine JO_nil ?_
    refine JX_then ?_
    refine J_ret ?_
    refine JX_then_ret ?_
    refine JX_rets [vB false] (vB false) Tryd.results46 (fun w h => ⟨rfl, trivial⟩) rfl [] (fun _ h => h) ⟨?_, ?_⟩
    · have e_x0 : (false : Bool) = (decide (a = b)) := by
        first | exact (R47.same_no (by omega)).symm | exact (R47.same_bad (k := k) (by assumption)).symm | exact (R47.same_all i1_1 (fun i hi => i1_2 i (by omega))).symm
      exact congrArg (fun (x0 : Bool) => vB x0) e_x0
    · rfl
  · have h1 := of_decide_eq_false h1
    refine J_skip ?_
    refine JX_then ?_
    refine J_seq ?_
    refine J_seq ?_
    refine J_region ?_
    refine JO_read (vI 0) rfl trivial (fun _ _ => rfl) ?_
    refine JO_nil ?_
    refine JX_then ?_
    refine J_block ?_
    refine J_loop (X := Nat) (fun (k : Nat) => (k ≤ a.length) ∧ (a.length = b.length) ∧ (∀ i, i < k → a.getD i default = b.getD i default)) (fun (k : Nat) => [(0, Value.slice aA a.length aC), (1, Value.slice bA b.length bC), (5, vI ((k : Nat) : Int))]) (fun (k : Nat) => []) (fun (k : Nat) => a.length - k) (0 : Nat) ?_ ⟨rfl, rfl, rfl, trivial⟩ (fun _ h => h) ?_
    · show (0 ≤ a.length) ∧ (a.length = b.length) ∧ (∀ i, i < 0 → a.getD i default = b.getD i default)
      refine ⟨?_, ?_, ?_⟩
      · first | rfl | omega | (simp_all; done) | (simp_all; omega)
      · first | rfl | omega | (simp_all; done) | (simp_all; omega)
      · intro i hi; omega
    intro k hI1
    obtain ⟨i1_0, i1_1, i1_2⟩ : (k ≤ a.length) ∧ (a.length = b.length) ∧ (∀ i, i < k → a.getD i default = b.getD i default) := hI1
    refine J_weaken (E' := [(0, Value.slice aA a.length aC), (1, Value.slice bA b.length bC), (5, vI ((k : Nat) : Int))]) (L' := []) ⟨rfl, rfl, rfl, trivial⟩ (fun _ h => h) ?_
    refine J_seq ?_
    refine J_seq ?_
    refine J_region ?_
    refine JO_read (vI ((k : Nat) : Int)) rfl trivial (fun _ _ => rfl) ?_
    refine JO_read (Value.slice aA a.length aC) rfl trivial (fun _ _ => rfl) ?_
    refine JO_read (vI ((a.length : Nat) : Int)) rfl trivial (fun _ _ => x_len_sl Tryd.underlying27 rfl) ?_
    refine JO_read (vB (decide (((k : Nat) : Int) < ((a.length : Nat) : Int)))) rfl trivial (fun _ _ => x_lss_i rfl rfl) ?_
    refine JO_nil ?_
    refine JX_then ?_
    refine J_cond (decide (((k : Nat) : Int) < ((a.length : Nat) : Int))) rfl rfl (fun h2 => ?_) (fun h2 => ?_)
    · have h2 := of_decide_eq_true h2
      refine J_skip ?_
      refine JX_then ?_
      refine J_seq ?_
      refine J_block ?_
      refine J_seq ?_
      refine J_draw [] [] [] 9 Ty.mixed rfl ?_
      refine JA_take 0 (Value.slice aA a.length aC) rfl (by kernel_rfl) (by kernel_rfl) (by kernel_rfl) rfl (fun _ _ _ h => h) rfl trivial (fun _ _ => rfl) ?_
      refine JA_take 1 (vI ((k : Nat) : Int)) rfl (by kernel_rfl) (by kernel_rfl) (by kernel_rfl) rfl (fun _ _ _ h => h) rfl trivial (fun _ _ => rfl) ?_
      refine JA_take 2 (Value.pointer (some (adr aA (k * 5)))) rfl (by kernel_rfl) (by kernel_rfl) (by kernel_rfl) rfl (fun _ _ _ h => h) rfl trivial (x_indexAddr_at (k := k) (off := k * 5) (cells_ro aR) Tryd.underlying27 Ty.sz23 rfl rfl lt_ (by rw [flat_length Change.enc 5 Change.enc_len]; first | omega | (simp; omega) | (simp_all; omega) | (simp_all; done)) rfl) ?_
      refine JA_take 3 (Value.agg ((Change.enc (a.getD k default))).toArray) rfl (by kernel_rfl) (by kernel_rfl) (by kernel_rfl) rfl (fun _ _ _ h => h) rfl trivial (x_loadN_at (Change.enc (a.getD k default)) (cells_ro aR) rfl Ty.ag23 Ty.sz23 (flat_drop Change.enc 5 Change.enc_len a default k lt_)) ?_
      refine JA_take 4 (Value.slice bA b.length bC) rfl (by kernel_rfl) (by kernel_rfl) (by kernel_rfl) rfl (fun _ _ _ h => h) rfl trivial (fun _ _ => rfl) ?_
      refine JA_take 5 (vI ((k : Nat) : Int)) rfl (by kernel_rfl) (by kernel_rfl) (by kernel_rfl) rfl (fun _ _ _ h => h) rfl trivial (fun _ _ => rfl) ?_
      refine JA_take 6 (Value.pointer (some (adr bA (k * 5)))) rfl (by kernel_rfl) (by kernel_rfl) (by kernel_rfl) rfl (fun _ _ _ h => h) rfl trivial (x_indexAddr_at (k := k) (off := k * 5) (cells_ro bR) Tryd.underlying27 Ty.sz23 rfl rfl lt_ (by rw [flat_length Change.enc 5 Change.enc_len]; first | omega | (simp; omega) | (simp_all; omega) | (simp_all; done)) rfl) ?_
      refine JA_take 7 (Value.agg ((Change.enc (b.getD k default))).toArray) rfl (by kernel_rfl) (by kernel_rfl) (by kernel_rfl) rfl (fun _ _ _ h => h) rfl trivial (x_loadN_at (Change.enc (b.getD k default)) (cells_ro bR) rfl Ty.ag23 Ty.sz23 (flat_drop Change.enc 5 Change.enc_len b default k lt_)) ?_
      refine JA_take 8 (vB (!(decide (((a.getD k default) : Change) = (b.getD k default))))) rfl (by kernel_rfl) (by kernel_rfl) (by kernel_rfl) rfl (fun _ _ _ h => h) rfl trivial (fun _ _ => x_neq_agg rfl rfl Ty.eg23 (Ty.eq23 9998 (a.getD k default) (b.getD k default))) ?_
      refine JA_done (by kernel_rfl) (fun _ h => ⟨h, fun _ => h⟩) ?_
      refine JX_then ?_
      refine J_cond (!(decide (((a.getD k default) : Change) = (b.getD k default)))) rfl rfl (fun h3 => ?_) (fun h3 => ?_)
      · have h3 : (decide (((a.getD k default) : Change) = (b.getD k default))) = false := bnot_true h3
        have h3 := of_decide_eq_false h3
        refine J_seq ?_
        refine J_region ?_
        refine JO_read (vB false) rfl trivial (fun _ _ => rfl) ?_
        refine JO_nil ?_
        refine JX_then ?_
        refine J_ret ?_
        refine JX_block_ret ?_
        refine JX_then_ret ?_
        refine JX_round_ret ?_
        refine JX_block_ret ?_
        refine JX_then_ret ?_
        refine JX_rets [vB false] (vB false) Tryd.results46 (fun w h => ⟨rfl, trivial⟩) rfl [] (fun _ h => h) ⟨?_, ?_⟩
        · have e_x0 : (false : Bool) = (decide (a = b)) := by
            first | exact (R47.same_no (by omega)).symm | exact (R47.same_bad (k := k) (by assumption)).symm | exact (R47.same_all i1_1 (fun i hi => i1_2 i (by omega))).symm
          exact congrArg (fun (x0 : Bool) => vB x0) e_x0
        · rfl
      · have h3 : (decide (((a.getD k default) : Change) = (b.getD k default))) = true := bnot_false h3
        have h3 := of_decide_eq_true h3
        refine J_skip ?_
        refine JX_block ?_
        refine JX_then ?_
        refine J_region ?_
        refine JO_read (vI ((k : Nat) : Int)) rfl trivial (fun _ _ => rfl) ?_
        refine JO_read (vI ((k + 1 : Nat) : Int)) rfl trivial (fun _ _ => x_add_n (a := k) (b := 1) rfl rfl (by omega)) ?_
        refine JO_read (vI ((k + 1 : Nat) : Int)) rfl trivial (fun _ _ => rfl) ?_
        refine JO_nil ?_
        refine JX_round (k + 1 : Nat) ?_ ?_ ⟨rfl, rfl, rfl, trivial⟩ (fun _ h => h)
        · show ((k + 1) ≤ a.length) ∧ (a.length = b.length) ∧ (∀ i, i < (k + 1) → a.getD i default = b.getD i default)
          refine ⟨?_, ?_, ?_⟩
          · first | rfl | omega | (simp_all; done) | (simp_all; omega)
          · exact i1_1
          · intro i hi
            by_cases hik : i = k
            · subst hik; assumption
            · exact i1_2 i (by omega)
        · show a.length - (k + 1) < a.length - k
          first | omega | (simp; omega) | (simp_all; omega)
    · have h2 := of_decide_eq_false h2
      refine J_exit ?_
      refine JX_then_exit ?_
      refine JX_round_exit ?_
      refine JX_block_hit ?_
      refine JX_then ?_
      refine J_seq ?_
      refine J_region ?_
      refine JO_read (vB true) rfl trivial (fun _ _ => rfl) ?_
      refine JO_nil ?_
      refine JX_then ?_
      refine J_ret ?_
      refine JX_rets [vB true] (vB true) Tryd.results46 (fun w h => ⟨rfl, trivial⟩) rfl [] (fun _ h => h) ⟨?_, ?_⟩
      · have e_x0 : (true : Bool) = (decide (a = b)) := by
          first | exact (R47.same_no (by omega)).symm | exact (R47.same_bad (k := k) (by assumption)).symm | exact (R47.same_all i1_1 (fun i hi => i1_2 i (by omega))).symm
        exact congrArg (fun (x0 : Bool) => vB x0) e_x0
      · rfl

set_option maxRecDepth 20000 in
theorem f16_ok (n1 : Int) (u1 : Int) (a : List Change) (aA : Option Addr) (aC : Nat) (n2 : Int) (u2 : Int) (b : List Change) (bA : Option Addr) (bC : Nat) (w : World) (aR : RO [] w aA (a.flatMap Change.enc)) (bR : RO [] w bA (b.flatMap Change.enc)) (q0 : a.length ≤ 9223372036854775807) : Calls Tryd.prog 16 #[Value.agg #[vI n1, vI u1, Value.slice aA a.length aC], Value.agg #[vI n2, vI u2, Value.slice bA b.length bC]] w (Gives [] w fun v L => v = vB (((decide (n1 = n2)) && (decide (u1 = u2))) && (decide (a = b))) ∧ L = []) := by
  refine calls_J [] 24 Tryd.func16 rfl Tryd.ntmps16 [(0, Value.agg #[vI n1, vI u1, Value.slice aA a.length aC]), (1, Value.agg #[vI n2, vI u2, Value.slice bA b.length bC])] rfl rfl (Give.nil w) ?_
  refine J_seq ?_
  refine J_region ?_
  refine JO_op rfl trivial (O_box rfl rfl fun b1 => ?_)
  refine JO_op rfl trivial (O_box rfl rfl fun b2 => ?_)
  refine JO_read (vB false) rfl trivial (fun _ _ => rfl) ?_
  refine JO_nil ?_
  refine JX_then ?_
  refine J_seq ?_
  refine J_region ?_
  refine JO_read (Value.pointer (some ⟨b1, 0, none⟩)) rfl trivial (fun _ _ => x_fieldAddr Ty.fi29_0 rfl rfl) ?_
  refine JO_read (vI n1) rfl trivial (x_load 1 rfl rfl Ty.sc3 rfl) ?_
  refine JO_read (Value.pointer (some ⟨b2, 0, none⟩)) rfl trivial (fun _ _ => x_fieldAddr Ty.fi29_0 rfl rfl) ?_
  refine JO_read (vI n2) rfl trivial (x_load 0 rfl rfl Ty.sc3 rfl) ?_
  refine JO_read (vB (decide (n1 = n2))) rfl trivial (fun _ _ => x_eql_i rfl rfl) ?_
  refine JO_read (vB (decide (n1 = n2))) rfl trivial (fun _ _ => rfl) ?_
  refine JO_cut (X := Bool) 6 (fun z => z = ((decide (n1 = n2)) && (decide (u1 = u2)))) (fun z => [(2, Value.pointer (some ⟨b1, 0, none⟩)), (3, Value.pointer (some ⟨b2, 0, none⟩)), (4, vB false), (16, vB z)]) (fun _ => [Ent.blk b2 29 [vI n2, vI u2, Value.slice bA b.length bC], Ent.blk b1 29 [vI n1, vI u1, Value.slice aA a.length aC]]) ?_ ?_
  · rcases Bool.eq_false_or_eq_true (decide (n1 = n2)) with g4 | g4
    · have g4r := g4
      have g4r := of_decide_eq_true g4r
      refine JO_read (Value.pointer (some ⟨b1, 1, none⟩)) rfl ⟨_, rfl, g4⟩ (fun _ _ => x_fieldAddr Ty.fi29_1 rfl rfl) ?_
      refine JO_read (vI u1) rfl ⟨_, rfl, g4⟩ (x_load 1 rfl rfl Ty.sc3 rfl) ?_
      refine JO_read (Value.pointer (some ⟨b2, 1, none⟩)) rfl ⟨_, rfl, g4⟩ (fun _ _ => x_fieldAddr Ty.fi29_1 rfl rfl) ?_
      refine JO_read (vI u2) rfl ⟨_, rfl, g4⟩ (x_load 0 rfl rfl Ty.sc3 rfl) ?_
      refine JO_read (vB (decide (u1 = u2))) rfl ⟨_, rfl, g4⟩ (fun _ _ => x_eql_i rfl rfl) ?_
      refine JO_read (vB (decide (u1 = u2))) rfl trivial (fun _ _ => x_pick_t rfl g4 rfl) ?_
      refine JO_nil (JX_cut (decide (u1 = u2)) (by rw [g4]; simp) ⟨rfl, rfl, rfl, rfl, trivial⟩ (fun _ h => h))
    · have g4r := g4
      have g4r := of_decide_eq_false g4r
      refine JO_shun rfl ⟨_, rfl, g4⟩ ?_
      refine JO_shun rfl ⟨_, rfl, g4⟩ ?_
      refine JO_shun rfl ⟨_, rfl, g4⟩ ?_
      refine JO_shun rfl ⟨_, rfl, g4⟩ ?_
      refine JO_shun rfl ⟨_, rfl, g4⟩ ?_
      refine JO_read (vB false) rfl trivial (fun _ _ => x_pick_f rfl g4 rfl) ?_
      refine JO_nil (JX_cut (false) (by rw [g4]; simp) ⟨rfl, rfl, rfl, rfl, trivial⟩ (fun _ h => h))
  rintro z3 rfl
  refine JO_read (vB ((decide (n1 = n2)) && (decide (u1 = u2)))) rfl trivial (fun _ _ => rfl) ?_
  refine JO_cut (X := Bool) 6 (fun z => z = (((decide (n1 = n2)) && (decide (u1 = u2))) && (decide (a = b)))) (fun z => [(4, vB false), (23, vB z)]) (fun _ => [Ent.blk b2 29 [vI n2, vI u2, Value.slice bA b.length bC], Ent.blk b1 29 [vI n1, vI u1, Value.slice aA a.length aC]]) ?_ ?_
  · rcases Bool.eq_false_or_eq_true ((decide (n1 = n2)) && (decide (u1 = u2))) with g6 | g6
    · have g6r := g6
      have ⟨g6r, h7⟩ := band_true g6r
      have g6r := of_decide_eq_true g6r
      have h7 := of_decide_eq_true h7
      refine JO_read (Value.pointer (some ⟨b1, 2, none⟩)) rfl ⟨_, rfl, g6⟩ (fun _ _ => x_fieldAddr Ty.fi29_2 rfl rfl) ?_
      refine JO_read (Value.slice aA a.length aC) rfl ⟨_, rfl, g6⟩ (x_load 1 rfl rfl Ty.sc27 rfl) ?_
      refine JO_read (Value.pointer (some ⟨b2, 2, none⟩)) rfl ⟨_, rfl, g6⟩ (fun _ _ => x_fieldAddr Ty.fi29_2 rfl rfl) ?_
      refine JO_read (Value.slice bA b.length bC) rfl ⟨_, rfl, g6⟩ (x_load 0 rfl rfl Ty.sc27 rfl) ?_
      refine JO_call [] [] [Ent.blk b2 29 [vI n2, vI u2, Value.slice bA b.length bC], Ent.blk b1 29 [vI n1, vI u1, Value.slice aA a.length aC]] rfl ⟨_, rfl, g6⟩ (fun _ => x_call Ty.ca46 rfl) (fun _ h => h) (fun _ h => by cases h) (fun w hS => f46_ok a aA aC b bA bC w (aR.on hS (fun _ h => by cases h)) (bR.on hS (fun _ h => by cases h)) hy_) ?_
      rintro _ _ ⟨rfl, rfl⟩
      refine JO_read (vB (decide (a = b))) rfl trivial (fun _ _ => x_pick_t rfl g6 rfl) ?_
      refine JO_nil (JX_cut (decide (a = b)) (by rw [g6]; simp) ⟨rfl, rfl, trivial⟩ (fun _ h => h))
    · have g6r := g6
      simp only [Bool.and_eq_true, Bool.or_eq_true, Bool.and_eq_false_iff, Bool.or_eq_false_iff, Bool.not_eq_true', Bool.not_eq_false', decide_eq_true_eq, decide_eq_false_iff_not] at g6r
      refine JO_shun rfl ⟨_, rfl, g6⟩ ?_
      refine JO_shun rfl ⟨_, rfl, g6⟩ ?_
      refine JO_shun rfl ⟨_, rfl, g6⟩ ?_
      refine JO_shun rfl ⟨_, rfl, g6⟩ ?_
      refine JO_shun rfl ⟨_, rfl, g6⟩ ?_
      refine JO_read (vB false) rfl trivial (fun _ _ => x_pick_f rfl g6 rfl) ?_
      refine JO_nil (JX_cut (false) (by rw [g6]; simp) ⟨rfl, rfl, trivial⟩ (fun _ h => h))
  rintro z5 rfl
  refine JO_read (vB (((decide (n1 = n2)) && (decide (u1 = u2))) && (decide (a = b)))) rfl trivial (fun _ _ => rfl) ?_
  refine JO_nil ?_
  refine JX_then ?_
  refine J_ret ?_
  refine JX_rets [vB (((decide (n1 = n2)) && (decide (u1 = u2))) && (decide (a = b)))] (vB (((decide (n1 = n2)) && (decide (u1 = u2))) && (decide (a = b)))) Tryd.results16 (fun w h => ⟨rfl, trivial⟩) rfl [] (fun _ h => h.keep [false, false] rfl) ⟨?_, ?_⟩
  · rfl
  · rfl

set_option maxRecDepth 20000 in
theorem f21_ok (num : Int) (unit : Int) (ch : List Change) (chA : Option Addr) (chC : Nat) (most : Int) (w : World) (chR : RO [] w chA (ch.flatMap Change.enc)) (q0 : ch.length ≤ 9223372036854775807) : Calls Tryd.prog 21 #[Value.agg #[vI num, vI unit, Value.slice chA ch.length chC], vI most] w (Gives [] w fun v L => v = vB (R47.few ch most) ∧ L = []) := by
  refine calls_J [] 40 Tryd.func21 rfl Tryd.ntmps21 [(0, Value.agg #[vI num, vI unit, Value.slice chA ch.length chC]), (1, vI most)] rfl rfl (Give.nil w) ?_
  refine J_seq ?_
  refine J_region ?_
  refine JO_op rfl trivial (O_box rfl rfl fun b1 => ?_)
  refine JO_read (vB false) rfl trivial (fun _ _ => rfl) ?_
  refine JO_nil ?_
  refine JX_then ?_
  refine J_seq ?_
  refine J_seq ?_
  refine J_region ?_
  refine JO_read (Value.pointer (some ⟨b1, 2, none⟩)) rfl trivial (fun _ _ => x_fieldAddr Ty.fi29_2 rfl rfl) ?_
  refine JO_read (Value.slice chA ch.length chC) rfl trivial (x_load 0 rfl rfl Ty.sc27 rfl) ?_
  refine JO_read (vI ((ch.length : Nat) : Int)) rfl trivial (fun _ _ => x_len_sl Tryd.underlying27 rfl) ?_
  refine JO_read (vI most) rfl trivial (fun _ _ => rfl) ?_
  refine JO_read (vB (decide (most < ((ch.length : Nat) : Int)))) rfl trivial (fun _ _ => x_gtr_i rfl rfl) ?_
  refine JO_nil ?_
  refine JX_then ?_
  refine J_cond (decide (most < ((ch.length : Nat) : Int))) rfl rfl (fun h2 => ?_) (fun h2 => ?_)
  · have h2 := of_decide_eq_true h2
    refine J_seq ?_
    refine J_region ?_
    refine JO_read (vB false) rfl trivial (fun _ _ => rfl) ?_
    refine JO_nil ?_
    refine JX_then ?_
    refine J_ret ?_
    refine JX_then_ret ?_
    refine JX_rets [vB false] (vB false) Tryd.results21 (fun w h => ⟨rfl, trivial⟩) rfl [] (fun _ h => h.keep [false] rfl) ⟨?_, ?_⟩
    · have e_x0 : (false : Bool) = (R47.few ch most) := by
        first | exact (R47.few_no (by omega)).symm | exact (R47.few_bad (k := k) (by omega) (by omega)).symm | exact (R47.few_end (by omega) (fun i hi => i1_2 i (by omega))).symm
      exact congrArg (fun (x0 : Bool) => vB x0) e_x0
    · rfl
  · have h2 := of_decide_eq_false h2
    refine J_skip ?_
    refine JX_then ?_
    refine J_seq ?_
    refine J_seq ?_
    refine J_region ?_
    refine JO_read (vI 0) rfl trivial (fun _ _ => rfl) ?_
    refine JO_nil ?_
    refine JX_then ?_
    refine J_block ?_
    refine J_loop (X := Nat) (fun (k : Nat) => (k ≤ ch.length) ∧ ((ch.length : Int) ≤ most) ∧ (∀ i, i < k → R47.short (ch.getD i default) = true)) (fun (k : Nat) => [(2, Value.pointer (some ⟨b1, 0, none⟩)), (5, vI ((k : Nat) : Int))]) (fun (k : Nat) => [Ent.blk b1 29 [vI num, vI unit, Value.slice chA ch.length chC]]) (fun (k : Nat) => ch.length - k) (0 : Nat) ?_ ⟨rfl, rfl, trivial⟩ (fun _ h => h) ?_
    · show (0 ≤ ch.length) ∧ ((ch.length : Int) ≤ most) ∧ (∀ i, i < 0 → R47.short (ch.getD i default) = true)
      refine ⟨?_, ?_, ?_⟩
      · first | rfl | omega | (simp_all; done) | (simp_all; omega)
      · first | rfl | omega | (simp_all; done) | (simp_all; omega)
      · intro i hi; omega
    intro k hI1
    obtain ⟨i1_0, i1_1, i1_2⟩ : (k ≤ ch.length) ∧ ((ch.length : Int) ≤ most) ∧ (∀ i, i < k → R47.short (ch.getD i default) = true) := hI1
    refine J_weaken (E' := [(2, Value.pointer (some ⟨b1, 0, none⟩)), (5, vI ((k : Nat) : Int))]) (L' := [Ent.blk b1 29 [vI num, vI unit, Value.slice chA ch.length chC]]) ⟨rfl, rfl, trivial⟩ (fun _ h => h) ?_
    refine J_seq ?_
    refine J_seq ?_
    refine J_region ?_
    refine JO_read (vI ((k : Nat) : Int)) rfl trivial (fun _ _ => rfl) ?_
    refine JO_read (Value.pointer (some ⟨b1, 2, none⟩)) rfl trivial (fun _ _ => x_fieldAddr Ty.fi29_2 rfl rfl) ?_
    refine JO_read (Value.slice chA ch.length chC) rfl trivial (x_load 0 rfl rfl Ty.sc27 rfl) ?_
    refine JO_read (vI ((ch.length : Nat) : Int)) rfl trivial (fun _ _ => x_len_sl Tryd.underlying27 rfl) ?_
    refine JO_read (vB (decide (((k : Nat) : Int) < ((ch.length : Nat) : Int)))) rfl trivial (fun _ _ => x_lss_i rfl rfl) ?_
    refine JO_nil ?_
    refine JX_then ?_
    refine J_cond (decide (((k : Nat) : Int) < ((ch.length : Nat) : Int))) rfl rfl (fun h3 => ?_) (fun h3 => ?_)
    · have h3 := of_decide_eq_true h3
      refine J_skip ?_
      refine JX_then ?_
      refine J_seq ?_
      refine J_block ?_
      refine J_seq ?_
      refine J_region ?_
      refine JO_read (Value.pointer (some ⟨b1, 2, none⟩)) rfl trivial (fun _ _ => x_fieldAddr Ty.fi29_2 rfl rfl) ?_
      refine JO_read (Value.slice chA ch.length chC) rfl trivial (x_load 0 rfl rfl Ty.sc27 rfl) ?_
      refine JO_read (vI ((k : Nat) : Int)) rfl trivial (fun _ _ => rfl) ?_
      refine JO_read (Value.pointer (some (adr chA (k * 5)))) rfl trivial (x_indexAddr_at (k := k) (off := k * 5) (cells_ro chR) Tryd.underlying27 Ty.sz23 rfl rfl lt_ (by rw [flat_length Change.enc 5 Change.enc_len]; first | omega | (simp; omega) | (simp_all; omega) | (simp_all; done)) rfl) ?_
      refine JO_read (Value.agg ((Change.enc (ch.getD k default))).toArray) rfl trivial (x_loadN_at (Change.enc (ch.getD k default)) (cells_ro chR) rfl Ty.ag23 Ty.sz23 (flat_drop Change.enc 5 Change.enc_len ch default k lt_)) ?_
      refine JO_op rfl trivial (O_alloc Ty.ze23 rfl fun b4 => ?_)
      refine JO_op rfl trivial (O_storeS (vs := (Change.enc (ch.getD k default))) 0 (Change.enc (ch.getD k default)) [Ent.blk b4 23 (Change.enc (ch.getD k default)), Ent.blk b1 29 [vI num, vI unit, Value.slice chA ch.length chC]] rfl rfl rfl Ty.sz23 rfl (Nat.le_of_ble_eq_true rfl) rfl rfl rfl ?_)
      refine JO_nil ?_
      refine JX_then ?_
      refine J_seq ?_
      refine J_region ?_
      refine JO_read (Value.pointer (some ⟨b4, 2, none⟩)) rfl trivial (fun _ _ => x_fieldAddr Ty.fi23_2 rfl rfl) ?_
      refine JO_read (vS ((ch.getD k default).Key)) rfl trivial (x_load 0 rfl rfl Ty.sc9 rfl) ?_
      refine JO_read (vI ((((ch.getD k default).Key).length : Nat) : Int)) rfl trivial (fun _ _ => x_len_s rfl Tryd.underlying9) ?_
      refine JO_read (vB (decide ((50 : Int) < ((((ch.getD k default).Key).length : Nat) : Int)))) rfl trivial (fun _ _ => x_gtr_i rfl rfl) ?_
      refine JO_read (vB (decide ((50 : Int) < ((((ch.getD k default).Key).length : Nat) : Int)))) rfl trivial (fun _ _ => rfl) ?_
      refine JO_cut (X := Bool) 5 (fun z => z = ((decide ((50 : Int) < ((((ch.getD k default).Key).length : Nat) : Int))) || (decide ((1200 : Int) < ((((ch.getD k default).Record).length : Nat) : Int))))) (fun z => [(2, Value.pointer (some ⟨b1, 0, none⟩)), (5, vI ((k : Nat) : Int)), (6, Value.pointer (some ⟨b4, 0, none⟩)), (33, vB z)]) (fun _ => [Ent.blk b4 23 (Change.enc (ch.getD k default)), Ent.blk b1 29 [vI num, vI unit, Value.slice chA ch.length chC]]) ?_ ?_
      · rcases Bool.eq_false_or_eq_true (decide ((50 : Int) < ((((ch.getD k default).Key).length : Nat) : Int))) with g6 | g6
        · have g6r := g6
          have g6r := of_decide_eq_true g6r
          refine JO_shun rfl ⟨_, rfl, g6⟩ ?_
          refine JO_shun rfl ⟨_, rfl, g6⟩ ?_
          refine JO_shun rfl ⟨_, rfl, g6⟩ ?_
          refine JO_shun rfl ⟨_, rfl, g6⟩ ?_
          refine JO_read (vB true) rfl trivial (fun _ _ => x_pick_t rfl g6 rfl) ?_
          refine JO_nil (JX_cut (true) (by rw [g6]; simp) ⟨rfl, rfl, rfl, rfl, trivial⟩ (fun _ h => h))
        · have g6r := g6
          have g6r := of_decide_eq_false g6r
          refine JO_read (Value.pointer (some ⟨b4, 3, none⟩)) rfl ⟨_, rfl, g6⟩ (fun _ _ => x_fieldAddr Ty.fi23_3 rfl rfl) ?_
          refine JO_read (vS ((ch.getD k default).Record)) rfl ⟨_, rfl, g6⟩ (x_load 0 rfl rfl Ty.sc9 rfl) ?_
          refine JO_read (vI ((((ch.getD k default).Record).length : Nat) : Int)) rfl ⟨_, rfl, g6⟩ (fun _ _ => x_len_s rfl Tryd.underlying9) ?_
          refine JO_read (vB (decide ((1200 : Int) < ((((ch.getD k default).Record).length : Nat) : Int)))) rfl ⟨_, rfl, g6⟩ (fun _ _ => x_gtr_i rfl rfl) ?_
          refine JO_read (vB (decide ((1200 : Int) < ((((ch.getD k default).Record).length : Nat) : Int)))) rfl trivial (fun _ _ => x_pick_f rfl g6 rfl) ?_
          refine JO_nil (JX_cut (decide ((1200 : Int) < ((((ch.getD k default).Record).length : Nat) : Int))) (by rw [g6]; simp) ⟨rfl, rfl, rfl, rfl, trivial⟩ (fun _ h => h))
      rintro z5 rfl
      refine JO_read (vB ((decide ((50 : Int) < ((((ch.getD k default).Key).length : Nat) : Int))) || (decide ((1200 : Int) < ((((ch.getD k default).Record).length : Nat) : Int))))) rfl trivial (fun _ _ => rfl) ?_
      refine JO_cut (X := Bool) 5 (fun z => z = (((decide ((50 : Int) < ((((ch.getD k default).Key).length : Nat) : Int))) || (decide ((1200 : Int) < ((((ch.getD k default).Record).length : Nat) : Int)))) || (decide ((20 : Int) < ((((ch.getD k default).Volume).length : Nat) : Int))))) (fun z => [(2, Value.pointer (some ⟨b1, 0, none⟩)), (5, vI ((k : Nat) : Int)), (39, vB z)]) (fun _ => [Ent.blk b4 23 (Change.enc (ch.getD k default)), Ent.blk b1 29 [vI num, vI unit, Value.slice chA ch.length chC]]) ?_ ?_
      · rcases Bool.eq_false_or_eq_true ((decide ((50 : Int) < ((((ch.getD k default).Key).length : Nat) : Int))) || (decide ((1200 : Int) < ((((ch.getD k default).Record).length : Nat) : Int)))) with g8 | g8
        · have g8r := g8
          simp only [Bool.and_eq_true, Bool.or_eq_true, Bool.and_eq_false_iff, Bool.or_eq_false_iff, Bool.not_eq_true', Bool.not_eq_false', decide_eq_true_eq, decide_eq_false_iff_not] at g8r
          refine JO_shun rfl ⟨_, rfl, g8⟩ ?_
          refine JO_shun rfl ⟨_, rfl, g8⟩ ?_
          refine JO_shun rfl ⟨_, rfl, g8⟩ ?_
          refine JO_shun rfl ⟨_, rfl, g8⟩ ?_
          refine JO_read (vB true) rfl trivial (fun _ _ => x_pick_t rfl g8 rfl) ?_
          refine JO_nil (JX_cut (true) (by rw [g8]; simp) ⟨rfl, rfl, rfl, trivial⟩ (fun _ h => h))
        · have g8r := g8
          have ⟨g8r, h9⟩ := bor_false g8r
          have g8r := of_decide_eq_false g8r
          have h9 := of_decide_eq_false h9
          refine JO_read (Value.pointer (some ⟨b4, 4, none⟩)) rfl ⟨_, rfl, g8⟩ (fun _ _ => x_fieldAddr Ty.fi23_4 rfl rfl) ?_
          refine JO_read (vS ((ch.getD k default).Volume)) rfl ⟨_, rfl, g8⟩ (x_load 0 rfl rfl Ty.sc9 rfl) ?_
          refine JO_read (vI ((((ch.getD k default).Volume).length : Nat) : Int)) rfl ⟨_, rfl, g8⟩ (fun _ _ => x_len_s rfl Tryd.underlying9) ?_
          refine JO_read (vB (decide ((20 : Int) < ((((ch.getD k default).Volume).length : Nat) : Int)))) rfl ⟨_, rfl, g8⟩ (fun _ _ => x_gtr_i rfl rfl) ?_
          refine JO_read (vB (decide ((20 : Int) < ((((ch.getD k default).Volume).length : Nat) : Int)))) rfl trivial (fun _ _ => x_pick_f rfl g8 rfl) ?_
          refine JO_nil (JX_cut (decide ((20 : Int) < ((((ch.getD k default).Volume).length : Nat) : Int))) (by rw [g8]; simp) ⟨rfl, rfl, rfl, trivial⟩ (fun _ h => h))
      rintro z7 rfl
      refine JO_nil ?_
      refine JX_then ?_
      refine J_cond (((decide ((50 : Int) < ((((ch.getD k default).Key).length : Nat) : Int))) || (decide ((1200 : Int) < ((((ch.getD k default).Record).length : Nat) : Int)))) || (decide ((20 : Int) < ((((ch.getD k default).Volume).length : Nat) : Int)))) rfl rfl (fun h10 => ?_) (fun h10 => ?_)
      · simp only [Bool.and_eq_true, Bool.or_eq_true, Bool.and_eq_false_iff, Bool.or_eq_false_iff, Bool.not_eq_true', Bool.not_eq_false', decide_eq_true_eq, decide_eq_false_iff_not] at h10
        refine J_seq ?_
        refine J_region ?_
        refine JO_read (vB false) rfl trivial (fun _ _ => rfl) ?_
        refine JO_nil ?_
        refine JX_then ?_
        refine J_ret ?_
        refine JX_block_ret ?_
        refine JX_then_ret ?_
        refine JX_round_ret ?_
        refine JX_block_ret ?_
        refine JX_then_ret ?_
        refine JX_rets [vB false] (vB false) Tryd.results21 (fun w h => ⟨rfl, trivial⟩) rfl [] (fun _ h => h.keep [false, false] rfl) ⟨?_, ?_⟩
        · have e_x0 : (false : Bool) = (R47.few ch most) := by
            first | exact (R47.few_no (by omega)).symm | exact (R47.few_bad (k := k) (by omega) (by omega)).symm | exact (R47.few_end (by omega) (fun i hi => i1_2 i (by omega))).symm
          exact congrArg (fun (x0 : Bool) => vB x0) e_x0
        · rfl
      · have ⟨h10, h11⟩ := bor_false h10
        have ⟨h10, h12⟩ := bor_false h10
        have h10 := of_decide_eq_false h10
        have h12 := of_decide_eq_false h12
        have h11 := of_decide_eq_false h11
        refine J_skip ?_
        refine JX_block ?_
        refine JX_then ?_
        refine J_region ?_
        refine JO_read (vI ((k : Nat) : Int)) rfl trivial (fun _ _ => rfl) ?_
        refine JO_read (vI ((k + 1 : Nat) : Int)) rfl trivial (fun _ _ => x_add_n (a := k) (b := 1) rfl rfl (by omega)) ?_
        refine JO_read (vI ((k + 1 : Nat) : Int)) rfl trivial (fun _ _ => rfl) ?_
        refine JO_nil ?_
        refine JX_round (k + 1 : Nat) ?_ ?_ ⟨rfl, rfl, trivial⟩ (fun _ h => h.keep [false, true] rfl)
        · show ((k + 1) ≤ ch.length) ∧ ((ch.length : Int) ≤ most) ∧ (∀ i, i < (k + 1) → R47.short (ch.getD i default) = true)
          refine ⟨?_, ?_, ?_⟩
          · first | rfl | omega | (simp_all; done) | (simp_all; omega)
          · first | rfl | omega | (simp_all; done) | (simp_all; omega)
          · intro i hi
            by_cases hik : i = k
            · subst hik; exact R47.short_is (by omega) (by omega) (by omega)
            · exact i1_2 i (by omega)
        · show ch.length - (k + 1) < ch.length - k
          first | omega | (simp; omega) | (simp_all; omega)
    · have h3 := of_decide_eq_false h3
      refine J_exit ?_
      refine JX_then_exit ?_
      refine JX_round_exit ?_
      refine JX_block_hit ?_
      refine JX_then ?_
      refine J_seq ?_
      refine J_region ?_
      refine JO_read (vB true) rfl trivial (fun _ _ => rfl) ?_
      refine JO_nil ?_
      refine JX_then ?_
      refine J_ret ?_
      refine JX_rets [vB true] (vB true) Tryd.results21 (fun w h => ⟨rfl, trivial⟩) rfl [] (fun _ h => h.keep [false] rfl) ⟨?_, ?_⟩
      · have e_x0 : (true : Bool) = (R47.few ch most) := by
          first | exact (R47.few_no (by omega)).symm | exact (R47.few_bad (k := k) (by omega) (by omega)).symm | exact (R47.few_end (by omega) (fun i hi => i1_2 i (by omega))).symm
        exact congrArg (fun (x0 : Bool) => vB x0) e_x0
      · rfl

set_option maxRecDepth 20000 in
theorem f24_ok (a : Int) (b : Int) (c : Int) (w : World) : Calls Tryd.prog 24 #[vI a, vI b, vI c] w (Gives [] w fun v L => v = Value.tuple #[vI ((R47.unit a b c).1), vI ((R47.unit a b c).2)] ∧ L = []) := by
  refine calls_J [] 38 Tryd.func24 rfl Tryd.ntmps24 [(0, vI a), (1, vI b), (2, vI c)] rfl rfl (Give.nil w) ?_
  refine J_seq ?_
  refine J_region ?_
  refine JO_read (vI 0) rfl trivial (fun _ _ => rfl) ?_
  refine JO_read (vI 0) rfl trivial (fun _ _ => rfl) ?_
  refine JO_nil ?_
  refine JX_then ?_
  refine J_seq ?_
  refine J_seq ?_
  refine J_region ?_
  refine JO_read (vI a) rfl trivial (fun _ _ => rfl) ?_
  refine JO_read (vB (decide (a < 1))) rfl trivial (fun _ _ => x_lss_i rfl rfl) ?_
  refine JO_read (vB (decide (a < 1))) rfl trivial (fun _ _ => rfl) ?_
  refine JO_cut (X := Bool) 3 (fun z => z = ((decide (a < 1)) || (decide ((4 : Int) < a)))) (fun z => [(0, vI a), (1, vI b), (2, vI c), (6, vI 0), (7, vI 0), (13, vB z)]) (fun _ => []) ?_ ?_
  · rcases Bool.eq_false_or_eq_true (decide (a < 1)) with g2 | g2
    · have g2r := g2
      have g2r := of_decide_eq_true g2r
      refine JO_shun rfl ⟨_, rfl, g2⟩ ?_
      refine JO_shun rfl ⟨_, rfl, g2⟩ ?_
      refine JO_read (vB true) rfl trivial (fun _ _ => x_pick_t rfl g2 rfl) ?_
      refine JO_nil (JX_cut (true) (by rw [g2]; simp) ⟨rfl, rfl, rfl, rfl, rfl, rfl, trivial⟩ (fun _ h => h))
    · have g2r := g2
      have g2r := of_decide_eq_false g2r
      refine JO_read (vI a) rfl ⟨_, rfl, g2⟩ (fun _ _ => rfl) ?_
      refine JO_read (vB (decide ((4 : Int) < a))) rfl ⟨_, rfl, g2⟩ (fun _ _ => x_gtr_i rfl rfl) ?_
      refine JO_read (vB (decide ((4 : Int) < a))) rfl trivial (fun _ _ => x_pick_f rfl g2 rfl) ?_
      refine JO_nil (JX_cut (decide ((4 : Int) < a)) (by rw [g2]; simp) ⟨rfl, rfl, rfl, rfl, rfl, rfl, trivial⟩ (fun _ h => h))
  rintro z1 rfl
  refine JO_read (vB ((decide (a < 1)) || (decide ((4 : Int) < a)))) rfl trivial (fun _ _ => rfl) ?_
  refine JO_cut (X := Bool) 3 (fun z => z = (((decide (a < 1)) || (decide ((4 : Int) < a))) || (decide (b < 1)))) (fun z => [(0, vI a), (1, vI b), (2, vI c), (6, vI 0), (7, vI 0), (17, vB z)]) (fun _ => []) ?_ ?_
  · rcases Bool.eq_false_or_eq_true ((decide (a < 1)) || (decide ((4 : Int) < a))) with g4 | g4
    · have g4r := g4
      simp only [Bool.and_eq_true, Bool.or_eq_true, Bool.and_eq_false_iff, Bool.or_eq_false_iff, Bool.not_eq_true', Bool.not_eq_false', decide_eq_true_eq, decide_eq_false_iff_not] at g4r
      refine JO_shun rfl ⟨_, rfl, g4⟩ ?_
      refine JO_shun rfl ⟨_, rfl, g4⟩ ?_
      refine JO_read (vB true) rfl trivial (fun _ _ => x_pick_t rfl g4 rfl) ?_
      refine JO_nil (JX_cut (true) (by rw [g4]; simp) ⟨rfl, rfl, rfl, rfl, rfl, rfl, trivial⟩ (fun _ h => h))
    · have g4r := g4
      have ⟨g4r, h5⟩ := bor_false g4r
      have g4r := of_decide_eq_false g4r
      have h5 := of_decide_eq_false h5
      refine JO_read (vI b) rfl ⟨_, rfl, g4⟩ (fun _ _ => rfl) ?_
      refine JO_read (vB (decide (b < 1))) rfl ⟨_, rfl, g4⟩ (fun _ _ => x_lss_i rfl rfl) ?_
      refine JO_read (vB (decide (b < 1))) rfl trivial (fun _ _ => x_pick_f rfl g4 rfl) ?_
      refine JO_nil (JX_cut (decide (b < 1)) (by rw [g4]; simp) ⟨rfl, rfl, rfl, rfl, rfl, rfl, trivial⟩ (fun _ h => h))
  rintro z3 rfl
  refine JO_read (vB (((decide (a < 1)) || (decide ((4 : Int) < a))) || (decide (b < 1)))) rfl trivial (fun _ _ => rfl) ?_
  refine JO_cut (X := Bool) 3 (fun z => z = ((((decide (a < 1)) || (decide ((4 : Int) < a))) || (decide (b < 1))) || (decide ((65535 : Int) < b)))) (fun z => [(0, vI a), (1, vI b), (2, vI c), (6, vI 0), (7, vI 0), (21, vB z)]) (fun _ => []) ?_ ?_
  · rcases Bool.eq_false_or_eq_true (((decide (a < 1)) || (decide ((4 : Int) < a))) || (decide (b < 1))) with g7 | g7
    · have g7r := g7
      simp only [Bool.and_eq_true, Bool.or_eq_true, Bool.and_eq_false_iff, Bool.or_eq_false_iff, Bool.not_eq_true', Bool.not_eq_false', decide_eq_true_eq, decide_eq_false_iff_not] at g7r
      refine JO_shun rfl ⟨_, rfl, g7⟩ ?_
      refine JO_shun rfl ⟨_, rfl, g7⟩ ?_
      refine JO_read (vB true) rfl trivial (fun _ _ => x_pick_t rfl g7 rfl) ?_
      refine JO_nil (JX_cut (true) (by rw [g7]; simp) ⟨rfl, rfl, rfl, rfl, rfl, rfl, trivial⟩ (fun _ h => h))
    · have g7r := g7
      have ⟨g7r, h8⟩ := bor_false g7r
      have ⟨g7r, h9⟩ := bor_false g7r
      have g7r := of_decide_eq_false g7r
      have h9 := of_decide_eq_false h9
      have h8 := of_decide_eq_false h8
      refine JO_read (vI b) rfl ⟨_, rfl, g7⟩ (fun _ _ => rfl) ?_
      refine JO_read (vB (decide ((65535 : Int) < b))) rfl ⟨_, rfl, g7⟩ (fun _ _ => x_gtr_i rfl rfl) ?_
      refine JO_read (vB (decide ((65535 : Int) < b))) rfl trivial (fun _ _ => x_pick_f rfl g7 rfl) ?_
      refine JO_nil (JX_cut (decide ((65535 : Int) < b)) (by rw [g7]; simp) ⟨rfl, rfl, rfl, rfl, rfl, rfl, trivial⟩ (fun _ h => h))
  rintro z6 rfl
  refine JO_read (vB ((((decide (a < 1)) || (decide ((4 : Int) < a))) || (decide (b < 1))) || (decide ((65535 : Int) < b)))) rfl trivial (fun _ _ => rfl) ?_
  refine JO_cut (X := Bool) 3 (fun z => z = (((((decide (a < 1)) || (decide ((4 : Int) < a))) || (decide (b < 1))) || (decide ((65535 : Int) < b))) || (decide (c < 1)))) (fun z => [(0, vI a), (1, vI b), (2, vI c), (6, vI 0), (7, vI 0), (25, vB z)]) (fun _ => []) ?_ ?_
  · rcases Bool.eq_false_or_eq_true ((((decide (a < 1)) || (decide ((4 : Int) < a))) || (decide (b < 1))) || (decide ((65535 : Int) < b))) with g11 | g11
    · have g11r := g11
      simp only [Bool.and_eq_true, Bool.or_eq_true, Bool.and_eq_false_iff, Bool.or_eq_false_iff, Bool.not_eq_true', Bool.not_eq_false', decide_eq_true_eq, decide_eq_false_iff_not] at g11r
      refine JO_shun rfl ⟨_, rfl, g11⟩ ?_
      refine JO_shun rfl ⟨_, rfl, g11⟩ ?_
      refine JO_read (vB true) rfl trivial (fun _ _ => x_pick_t rfl g11 rfl) ?_
      refine JO_nil (JX_cut (true) (by rw [g11]; simp) ⟨rfl, rfl, rfl, rfl, rfl, rfl, trivial⟩ (fun _ h => h))
    · have g11r := g11
      have ⟨g11r, h12⟩ := bor_false g11r
      have ⟨g11r, h13⟩ := bor_false g11r
      have ⟨g11r, h14⟩ := bor_false g11r
      have g11r := of_decide_eq_false g11r
      have h14 := of_decide_eq_false h14
      have h13 := of_decide_eq_false h13
      have h12 := of_decide_eq_false h12
      refine JO_read (vI c) rfl ⟨_, rfl, g11⟩ (fun _ _ => rfl) ?_
      refine JO_read (vB (decide (c < 1))) rfl ⟨_, rfl, g11⟩ (fun _ _ => x_lss_i rfl rfl) ?_
      refine JO_read (vB (decide (c < 1))) rfl trivial (fun _ _ => x_pick_f rfl g11 rfl) ?_
      refine JO_nil (JX_cut (decide (c < 1)) (by rw [g11]; simp) ⟨rfl, rfl, rfl, rfl, rfl, rfl, trivial⟩ (fun _ h => h))
  rintro z10 rfl
  refine JO_read (vB (((((decide (a < 1)) || (decide ((4 : Int) < a))) || (decide (b < 1))) || (decide ((65535 : Int) < b))) || (decide (c < 1)))) rfl trivial (fun _ _ => rfl) ?_
  refine JO_cut (X := Bool) 3 (fun z => z = ((((((decide (a < 1)) || (decide ((4 : Int) < a))) || (decide (b < 1))) || (decide ((65535 : Int) < b))) || (decide (c < 1))) || (decide ((65536 : Int) ≤ c)))) (fun z => [(0, vI a), (1, vI b), (2, vI c), (6, vI 0), (7, vI 0), (29, vB z)]) (fun _ => []) ?_ ?_
  · rcases Bool.eq_false_or_eq_true (((((decide (a < 1)) || (decide ((4 : Int) < a))) || (decide (b < 1))) || (decide ((65535 : Int) < b))) || (decide (c < 1))) with g16 | g16
    · have g16r := g16
      simp only [Bool.and_eq_true, Bool.or_eq_true, Bool.and_eq_false_iff, Bool.or_eq_false_iff, Bool.not_eq_true', Bool.not_eq_false', decide_eq_true_eq, decide_eq_false_iff_not] at g16r
      refine JO_shun rfl ⟨_, rfl, g16⟩ ?_
      refine JO_shun rfl ⟨_, rfl, g16⟩ ?_
      refine JO_read (vB true) rfl trivial (fun _ _ => x_pick_t rfl g16 rfl) ?_
      refine JO_nil (JX_cut (true) (by rw [g16]; simp) ⟨rfl, rfl, rfl, rfl, rfl, rfl, trivial⟩ (fun _ h => h))
    · have g16r := g16
      have ⟨g16r, h17⟩ := bor_false g16r
      have ⟨g16r, h18⟩ := bor_false g16r
      have ⟨g16r, h19⟩ := bor_false g16r
      have ⟨g16r, h20⟩ := bor_false g16r
      have g16r := of_decide_eq_false g16r
      have h20 := of_decide_eq_false h20
      have h19 := of_decide_eq_false h19
      have h18 := of_decide_eq_false h18
      have h17 := of_decide_eq_false h17
      refine JO_read (vI c) rfl ⟨_, rfl, g16⟩ (fun _ _ => rfl) ?_
      refine JO_read (vB (decide ((65536 : Int) ≤ c))) rfl ⟨_, rfl, g16⟩ (fun _ _ => x_geq_i rfl rfl) ?_
      refine JO_read (vB (decide ((65536 : Int) ≤ c))) rfl trivial (fun _ _ => x_pick_f rfl g16 rfl) ?_
      refine JO_nil (JX_cut (decide ((65536 : Int) ≤ c)) (by rw [g16]; simp) ⟨rfl, rfl, rfl, rfl, rfl, rfl, trivial⟩ (fun _ h => h))
  rintro z15 rfl
  refine JO_nil ?_
  refine JX_then ?_
  refine J_cond ((((((decide (a < 1)) || (decide ((4 : Int) < a))) || (decide (b < 1))) || (decide ((65535 : Int) < b))) || (decide (c < 1))) || (decide ((65536 : Int) ≤ c))) rfl rfl (fun h21 => ?_) (fun h21 => ?_)
  · simp only [Bool.and_eq_true, Bool.or_eq_true, Bool.and_eq_false_iff, Bool.or_eq_false_iff, Bool.not_eq_true', Bool.not_eq_false', decide_eq_true_eq, decide_eq_false_iff_not] at h21
    refine J_seq ?_
    refine J_region ?_
    refine JO_read (vI 0) rfl trivial (fun _ _ => rfl) ?_
    refine JO_read (vI 2) rfl trivial (fun _ _ => rfl) ?_
    refine JO_nil ?_
    refine JX_then ?_
    refine J_ret ?_
    refine JX_then_ret ?_
    first
      | have hd := R47.unit_no (a := a) (b := b) (c := c) (by omega)
      | have hd := R47.unit_ok (a := a) (b := b) (c := c) (by omega)
    refine JX_rets [vI 0, vI 2] (Value.tuple #[vI 0, vI 2]) Tryd.results24 (fun w h => ⟨rfl, rfl, trivial⟩) rfl [] (fun _ h => h) ⟨?_, ?_⟩
    · have e_x0 : (0 : Int) = ((R47.unit a b c).1) := by
        first | (rw [hd]; done) | (rw [hd]; rfl)
      have e_x1 : (2 : Int) = ((R47.unit a b c).2) := by
        first | (rw [hd]; done) | (rw [hd]; rfl)
      have e_all := (congr (congrArg (fun (x0 : Int) (x1 : Int) => Value.tuple #[vI x0, vI x1]) e_x0) e_x1)
      exact e_all
    · rfl
  · have ⟨h21, h22⟩ := bor_false h21
    have ⟨h21, h23⟩ := bor_false h21
    have ⟨h21, h24⟩ := bor_false h21
    have ⟨h21, h25⟩ := bor_false h21
    have ⟨h21, h26⟩ := bor_false h21
    have h21 := of_decide_eq_false h21
    have h26 := of_decide_eq_false h26
    have h25 := of_decide_eq_false h25
    have h24 := of_decide_eq_false h24
    have h23 := of_decide_eq_false h23
    have h22 := of_decide_eq_false h22
    refine J_skip ?_
    refine JX_then ?_
    refine J_seq ?_
    refine J_region ?_
    refine JO_read (vI b) rfl trivial (fun _ _ => rfl) ?_
    refine JO_read (vI (b * 4)) rfl trivial (fun _ _ => x_mul_i (a := b) (b := 4) rfl rfl (by omega) (by omega)) ?_
    refine JO_read (vI a) rfl trivial (fun _ _ => rfl) ?_
    refine JO_read (vI ((b * 4) + a)) rfl trivial (fun _ _ => x_add_i (a := b * 4) (b := a) rfl rfl (by omega) (by omega)) ?_
    refine JO_read (vI (((b * 4) + a) - 1)) rfl trivial (fun _ _ => x_sub_i (a := (b * 4) + a) (b := 1) rfl rfl (by omega) (by omega)) ?_
    refine JO_read (vI ((((b * 4) + a) - 1) * 65536)) rfl trivial (fun _ _ => x_mul_i (a := ((b * 4) + a) - 1) (b := 65536) rfl rfl (by omega) (by omega)) ?_
    refine JO_read (vI c) rfl trivial (fun _ _ => rfl) ?_
    refine JO_read (vI (((((b * 4) + a) - 1) * 65536) + c)) rfl trivial (fun _ _ => x_add_i (a := (((b * 4) + a) - 1) * 65536) (b := c) rfl rfl (by omega) (by omega)) ?_
    refine JO_read (vI (((((b * 4) + a) - 1) * 65536) + c)) rfl trivial (fun _ _ => rfl) ?_
    refine JO_read (vI 0) rfl trivial (fun _ _ => rfl) ?_
    refine JO_nil ?_
    refine JX_then ?_
    refine J_ret ?_
    first
      | have hd := R47.unit_no (a := a) (b := b) (c := c) (by omega)
      | have hd := R47.unit_ok (a := a) (b := b) (c := c) (by omega)
    refine JX_rets [vI (((((b * 4) + a) - 1) * 65536) + c), vI 0] (Value.tuple #[vI (((((b * 4) + a) - 1) * 65536) + c), vI 0]) Tryd.results24 (fun w h => ⟨rfl, rfl, trivial⟩) rfl [] (fun _ h => h) ⟨?_, ?_⟩
    · have e_x0 : (((((b * 4) + a) - 1) * 65536) + c : Int) = ((R47.unit a b c).1) := by
        first | (rw [hd]; done) | (rw [hd]; rfl)
      have e_x1 : (0 : Int) = ((R47.unit a b c).2) := by
        first | (rw [hd]; done) | (rw [hd]; rfl)
      have e_all := (congr (congrArg (fun (x0 : Int) (x1 : Int) => Value.tuple #[vI x0, vI x1]) e_x0) e_x1)
      exact e_all
    · rfl

set_option maxRecDepth 20000 in
theorem f25_ok (a : Int) (b : Int) (c : Int) (w : World) : Calls Tryd.prog 25 #[vI a, vI b, vI c] w (Gives [] w fun v L => v = Value.tuple #[vI ((R47.unit a b c).1), vI ((R47.unit a b c).2)] ∧ L = []) := by
  refine calls_J [] 38 Tryd.func25 rfl Tryd.ntmps25 [(0, vI a), (1, vI b), (2, vI c)] rfl rfl (Give.nil w) ?_
  refine J_seq ?_
  refine J_region ?_
  refine JO_read (vI 0) rfl trivial (fun _ _ => rfl) ?_
  refine JO_read (vI 0) rfl trivial (fun _ _ => rfl) ?_
  refine JO_nil ?_
  refine JX_then ?_
  refine J_seq ?_
  refine J_seq ?_
  refine J_region ?_
  refine JO_read (vI a) rfl trivial (fun _ _ => rfl) ?_
  refine JO_read (vB (decide (a < 1))) rfl trivial (fun _ _ => x_lss_i rfl rfl) ?_
  refine JO_read (vB (decide (a < 1))) rfl trivial (fun _ _ => rfl) ?_
  refine JO_cut (X := Bool) 3 (fun z => z = ((decide (a < 1)) || (decide ((4 : Int) < a)))) (fun z => [(0, vI a), (1, vI b), (2, vI c), (6, vI 0), (7, vI 0), (13, vB z)]) (fun _ => []) ?_ ?_
  · rcases Bool.eq_false_or_eq_true (decide (a < 1)) with g2 | g2
    · have g2r := g2
      have g2r := of_decide_eq_true g2r
      refine JO_shun rfl ⟨_, rfl, g2⟩ ?_
      refine JO_shun rfl ⟨_, rfl, g2⟩ ?_
      refine JO_read (vB true) rfl trivial (fun _ _ => x_pick_t rfl g2 rfl) ?_
      refine JO_nil (JX_cut (true) (by rw [g2]; simp) ⟨rfl, rfl, rfl, rfl, rfl, rfl, trivial⟩ (fun _ h => h))
    · have g2r := g2
      have g2r := of_decide_eq_false g2r
      refine JO_read (vI a) rfl ⟨_, rfl, g2⟩ (fun _ _ => rfl) ?_
      refine JO_read (vB (decide ((4 : Int) < a))) rfl ⟨_, rfl, g2⟩ (fun _ _ => x_gtr_i rfl rfl) ?_
      refine JO_read (vB (decide ((4 : Int) < a))) rfl trivial (fun _ _ => x_pick_f rfl g2 rfl) ?_
      refine JO_nil (JX_cut (decide ((4 : Int) < a)) (by rw [g2]; simp) ⟨rfl, rfl, rfl, rfl, rfl, rfl, trivial⟩ (fun _ h => h))
  rintro z1 rfl
  refine JO_read (vB ((decide (a < 1)) || (decide ((4 : Int) < a)))) rfl trivial (fun _ _ => rfl) ?_
  refine JO_cut (X := Bool) 3 (fun z => z = (((decide (a < 1)) || (decide ((4 : Int) < a))) || (decide (b < 1)))) (fun z => [(0, vI a), (1, vI b), (2, vI c), (6, vI 0), (7, vI 0), (17, vB z)]) (fun _ => []) ?_ ?_
  · rcases Bool.eq_false_or_eq_true ((decide (a < 1)) || (decide ((4 : Int) < a))) with g4 | g4
    · have g4r := g4
      simp only [Bool.and_eq_true, Bool.or_eq_true, Bool.and_eq_false_iff, Bool.or_eq_false_iff, Bool.not_eq_true', Bool.not_eq_false', decide_eq_true_eq, decide_eq_false_iff_not] at g4r
      refine JO_shun rfl ⟨_, rfl, g4⟩ ?_
      refine JO_shun rfl ⟨_, rfl, g4⟩ ?_
      refine JO_read (vB true) rfl trivial (fun _ _ => x_pick_t rfl g4 rfl) ?_
      refine JO_nil (JX_cut (true) (by rw [g4]; simp) ⟨rfl, rfl, rfl, rfl, rfl, rfl, trivial⟩ (fun _ h => h))
    · have g4r := g4
      have ⟨g4r, h5⟩ := bor_false g4r
      have g4r := of_decide_eq_false g4r
      have h5 := of_decide_eq_false h5
      refine JO_read (vI b) rfl ⟨_, rfl, g4⟩ (fun _ _ => rfl) ?_
      refine JO_read (vB (decide (b < 1))) rfl ⟨_, rfl, g4⟩ (fun _ _ => x_lss_i rfl rfl) ?_
      refine JO_read (vB (decide (b < 1))) rfl trivial (fun _ _ => x_pick_f rfl g4 rfl) ?_
      refine JO_nil (JX_cut (decide (b < 1)) (by rw [g4]; simp) ⟨rfl, rfl, rfl, rfl, rfl, rfl, trivial⟩ (fun _ h => h))
  rintro z3 rfl
  refine JO_read (vB (((decide (a < 1)) || (decide ((4 : Int) < a))) || (decide (b < 1)))) rfl trivial (fun _ _ => rfl) ?_
  refine JO_cut (X := Bool) 3 (fun z => z = ((((decide (a < 1)) || (decide ((4 : Int) < a))) || (decide (b < 1))) || (decide ((65535 : Int) < b)))) (fun z => [(0, vI a), (1, vI b), (2, vI c), (6, vI 0), (7, vI 0), (21, vB z)]) (fun _ => []) ?_ ?_
  · rcases Bool.eq_false_or_eq_true (((decide (a < 1)) || (decide ((4 : Int) < a))) || (decide (b < 1))) with g7 | g7
    · have g7r := g7
      simp only [Bool.and_eq_true, Bool.or_eq_true, Bool.and_eq_false_iff, Bool.or_eq_false_iff, Bool.not_eq_true', Bool.not_eq_false', decide_eq_true_eq, decide_eq_false_iff_not] at g7r
      refine JO_shun rfl ⟨_, rfl, g7⟩ ?_
      refine JO_shun rfl ⟨_, rfl, g7⟩ ?_
      refine JO_read (vB true) rfl trivial (fun _ _ => x_pick_t rfl g7 rfl) ?_
      refine JO_nil (JX_cut (true) (by rw [g7]; simp) ⟨rfl, rfl, rfl, rfl, rfl, rfl, trivial⟩ (fun _ h => h))
    · have g7r := g7
      have ⟨g7r, h8⟩ := bor_false g7r
      have ⟨g7r, h9⟩ := bor_false g7r
      have g7r := of_decide_eq_false g7r
      have h9 := of_decide_eq_false h9
      have h8 := of_decide_eq_false h8
      refine JO_read (vI b) rfl ⟨_, rfl, g7⟩ (fun _ _ => rfl) ?_
      refine JO_read (vB (decide ((65535 : Int) < b))) rfl ⟨_, rfl, g7⟩ (fun _ _ => x_gtr_i rfl rfl) ?_
      refine JO_read (vB (decide ((65535 : Int) < b))) rfl trivial (fun _ _ => x_pick_f rfl g7 rfl) ?_
      refine JO_nil (JX_cut (decide ((65535 : Int) < b)) (by rw [g7]; simp) ⟨rfl, rfl, rfl, rfl, rfl, rfl, trivial⟩ (fun _ h => h))
  rintro z6 rfl
  refine JO_read (vB ((((decide (a < 1)) || (decide ((4 : Int) < a))) || (decide (b < 1))) || (decide ((65535 : Int) < b)))) rfl trivial (fun _ _ => rfl) ?_
  refine JO_cut (X := Bool) 3 (fun z => z = (((((decide (a < 1)) || (decide ((4 : Int) < a))) || (decide (b < 1))) || (decide ((65535 : Int) < b))) || (decide (c < 1)))) (fun z => [(0, vI a), (1, vI b), (2, vI c), (6, vI 0), (7, vI 0), (25, vB z)]) (fun _ => []) ?_ ?_
  · rcases Bool.eq_false_or_eq_true ((((decide (a < 1)) || (decide ((4 : Int) < a))) || (decide (b < 1))) || (decide ((65535 : Int) < b))) with g11 | g11
    · have g11r := g11
      simp only [Bool.and_eq_true, Bool.or_eq_true, Bool.and_eq_false_iff, Bool.or_eq_false_iff, Bool.not_eq_true', Bool.not_eq_false', decide_eq_true_eq, decide_eq_false_iff_not] at g11r
      refine JO_shun rfl ⟨_, rfl, g11⟩ ?_
      refine JO_shun rfl ⟨_, rfl, g11⟩ ?_
      refine JO_read (vB true) rfl trivial (fun _ _ => x_pick_t rfl g11 rfl) ?_
      refine JO_nil (JX_cut (true) (by rw [g11]; simp) ⟨rfl, rfl, rfl, rfl, rfl, rfl, trivial⟩ (fun _ h => h))
    · have g11r := g11
      have ⟨g11r, h12⟩ := bor_false g11r
      have ⟨g11r, h13⟩ := bor_false g11r
      have ⟨g11r, h14⟩ := bor_false g11r
      have g11r := of_decide_eq_false g11r
      have h14 := of_decide_eq_false h14
      have h13 := of_decide_eq_false h13
      have h12 := of_decide_eq_false h12
      refine JO_read (vI c) rfl ⟨_, rfl, g11⟩ (fun _ _ => rfl) ?_
      refine JO_read (vB (decide (c < 1))) rfl ⟨_, rfl, g11⟩ (fun _ _ => x_lss_i rfl rfl) ?_
      refine JO_read (vB (decide (c < 1))) rfl trivial (fun _ _ => x_pick_f rfl g11 rfl) ?_
      refine JO_nil (JX_cut (decide (c < 1)) (by rw [g11]; simp) ⟨rfl, rfl, rfl, rfl, rfl, rfl, trivial⟩ (fun _ h => h))
  rintro z10 rfl
  refine JO_read (vB (((((decide (a < 1)) || (decide ((4 : Int) < a))) || (decide (b < 1))) || (decide ((65535 : Int) < b))) || (decide (c < 1)))) rfl trivial (fun _ _ => rfl) ?_
  refine JO_cut (X := Bool) 3 (fun z => z = ((((((decide (a < 1)) || (decide ((4 : Int) < a))) || (decide (b < 1))) || (decide ((65535 : Int) < b))) || (decide (c < 1))) || (decide ((65535 : Int) < c)))) (fun z => [(0, vI a), (1, vI b), (2, vI c), (6, vI 0), (7, vI 0), (29, vB z)]) (fun _ => []) ?_ ?_
  · rcases Bool.eq_false_or_eq_true (((((decide (a < 1)) || (decide ((4 : Int) < a))) || (decide (b < 1))) || (decide ((65535 : Int) < b))) || (decide (c < 1))) with g16 | g16
    · have g16r := g16
      simp only [Bool.and_eq_true, Bool.or_eq_true, Bool.and_eq_false_iff, Bool.or_eq_false_iff, Bool.not_eq_true', Bool.not_eq_false', decide_eq_true_eq, decide_eq_false_iff_not] at g16r
      refine JO_shun rfl ⟨_, rfl, g16⟩ ?_
      refine JO_shun rfl ⟨_, rfl, g16⟩ ?_
      refine JO_read (vB true) rfl trivial (fun _ _ => x_pick_t rfl g16 rfl) ?_
      refine JO_nil (JX_cut (true) (by rw [g16]; simp) ⟨rfl, rfl, rfl, rfl, rfl, rfl, trivial⟩ (fun _ h => h))
    · have g16r := g16
      have ⟨g16r, h17⟩ := bor_false g16r
      have ⟨g16r, h18⟩ := bor_false g16r
      have ⟨g16r, h19⟩ := bor_false g16r
      have ⟨g16r, h20⟩ := bor_false g16r
      have g16r := of_decide_eq_false g16r
      have h20 := of_decide_eq_false h20
      have h19 := of_decide_eq_false h19
      have h18 := of_decide_eq_false h18
      have h17 := of_decide_eq_false h17
      refine JO_read (vI c) rfl ⟨_, rfl, g16⟩ (fun _ _ => rfl) ?_
      refine JO_read (vB (decide ((65535 : Int) < c))) rfl ⟨_, rfl, g16⟩ (fun _ _ => x_gtr_i rfl rfl) ?_
      refine JO_read (vB (decide ((65535 : Int) < c))) rfl trivial (fun _ _ => x_pick_f rfl g16 rfl) ?_
      refine JO_nil (JX_cut (decide ((65535 : Int) < c)) (by rw [g16]; simp) ⟨rfl, rfl, rfl, rfl, rfl, rfl, trivial⟩ (fun _ h => h))
  rintro z15 rfl
  refine JO_nil ?_
  refine JX_then ?_
  refine J_cond ((((((decide (a < 1)) || (decide ((4 : Int) < a))) || (decide (b < 1))) || (decide ((65535 : Int) < b))) || (decide (c < 1))) || (decide ((65535 : Int) < c))) rfl rfl (fun h21 => ?_) (fun h21 => ?_)
  · simp only [Bool.and_eq_true, Bool.or_eq_true, Bool.and_eq_false_iff, Bool.or_eq_false_iff, Bool.not_eq_true', Bool.not_eq_false', decide_eq_true_eq, decide_eq_false_iff_not] at h21
    refine J_seq ?_
    refine J_region ?_
    refine JO_read (vI 0) rfl trivial (fun _ _ => rfl) ?_
    refine JO_read (vI 2) rfl trivial (fun _ _ => rfl) ?_
    refine JO_nil ?_
    refine JX_then ?_
    refine J_ret ?_
    refine JX_then_ret ?_
    first
      | have hd := R47.unit_no (a := a) (b := b) (c := c) (by omega)
      | have hd := R47.unit_ok (a := a) (b := b) (c := c) (by omega)
    refine JX_rets [vI 0, vI 2] (Value.tuple #[vI 0, vI 2]) Tryd.results25 (fun w h => ⟨rfl, rfl, trivial⟩) rfl [] (fun _ h => h) ⟨?_, ?_⟩
    · have e_x0 : (0 : Int) = ((R47.unit a b c).1) := by
        first | (rw [hd]; done) | (rw [hd]; rfl)
      have e_x1 : (2 : Int) = ((R47.unit a b c).2) := by
        first | (rw [hd]; done) | (rw [hd]; rfl)
      have e_all := (congr (congrArg (fun (x0 : Int) (x1 : Int) => Value.tuple #[vI x0, vI x1]) e_x0) e_x1)
      exact e_all
    · rfl
  · have ⟨h21, h22⟩ := bor_false h21
    have ⟨h21, h23⟩ := bor_false h21
    have ⟨h21, h24⟩ := bor_false h21
    have ⟨h21, h25⟩ := bor_false h21
    have ⟨h21, h26⟩ := bor_false h21
    have h21 := of_decide_eq_false h21
    have h26 := of_decide_eq_false h26
    have h25 := of_decide_eq_false h25
    have h24 := of_decide_eq_false h24
    have h23 := of_decide_eq_false h23
    have h22 := of_decide_eq_false h22
    refine J_skip ?_
    refine JX_then ?_
    refine J_seq ?_
    refine J_region ?_
    refine JO_read (vI b) rfl trivial (fun _ _ => rfl) ?_
    refine JO_read (vI (b * 4)) rfl trivial (fun _ _ => x_mul_i (a := b) (b := 4) rfl rfl (by omega) (by omega)) ?_
    refine JO_read (vI a) rfl trivial (fun _ _ => rfl) ?_
    refine JO_read (vI ((b * 4) + a)) rfl trivial (fun _ _ => x_add_i (a := b * 4) (b := a) rfl rfl (by omega) (by omega)) ?_
    refine JO_read (vI (((b * 4) + a) - 1)) rfl trivial (fun _ _ => x_sub_i (a := (b * 4) + a) (b := 1) rfl rfl (by omega) (by omega)) ?_
    refine JO_read (vI ((((b * 4) + a) - 1) * 65536)) rfl trivial (fun _ _ => x_mul_i (a := ((b * 4) + a) - 1) (b := 65536) rfl rfl (by omega) (by omega)) ?_
    refine JO_read (vI c) rfl trivial (fun _ _ => rfl) ?_
    refine JO_read (vI (((((b * 4) + a) - 1) * 65536) + c)) rfl trivial (fun _ _ => x_add_i (a := (((b * 4) + a) - 1) * 65536) (b := c) rfl rfl (by omega) (by omega)) ?_
    refine JO_read (vI (((((b * 4) + a) - 1) * 65536) + c)) rfl trivial (fun _ _ => rfl) ?_
    refine JO_read (vI 0) rfl trivial (fun _ _ => rfl) ?_
    refine JO_nil ?_
    refine JX_then ?_
    refine J_ret ?_
    first
      | have hd := R47.unit_no (a := a) (b := b) (c := c) (by omega)
      | have hd := R47.unit_ok (a := a) (b := b) (c := c) (by omega)
    refine JX_rets [vI (((((b * 4) + a) - 1) * 65536) + c), vI 0] (Value.tuple #[vI (((((b * 4) + a) - 1) * 65536) + c), vI 0]) Tryd.results25 (fun w h => ⟨rfl, rfl, trivial⟩) rfl [] (fun _ h => h) ⟨?_, ?_⟩
    · have e_x0 : (((((b * 4) + a) - 1) * 65536) + c : Int) = ((R47.unit a b c).1) := by
        first | (rw [hd]; done) | (rw [hd]; rfl)
      have e_x1 : (0 : Int) = ((R47.unit a b c).2) := by
        first | (rw [hd]; done) | (rw [hd]; rfl)
      have e_all := (congr (congrArg (fun (x0 : Int) (x1 : Int) => Value.tuple #[vI x0, vI x1]) e_x0) e_x1)
      exact e_all
    · rfl

set_option maxRecDepth 20000 in
theorem f26_ok (u : Int) (w : World) (q0 : -9223372036854775808 ≤ u) (q1 : u ≤ 9223372036854775807) : Calls Tryd.prog 26 #[vI u] w (Gives [] w fun v L => v = Value.tuple #[vI ((R47.parts u).1), vI ((R47.parts u).2.1), vI ((R47.parts u).2.2.1), vB ((R47.parts u).2.2.2)] ∧ L = []) := by
  refine calls_J [] 31 Tryd.func26 rfl Tryd.ntmps26 [(0, vI u)] rfl rfl (Give.nil w) ?_
  refine J_seq ?_
  refine J_region ?_
  refine JO_read (vI 0) rfl trivial (fun _ _ => rfl) ?_
  refine JO_read (vI 0) rfl trivial (fun _ _ => rfl) ?_
  refine JO_read (vI 0) rfl trivial (fun _ _ => rfl) ?_
  refine JO_read (vB false) rfl trivial (fun _ _ => rfl) ?_
  refine JO_nil ?_
  refine JX_then ?_
  refine J_seq ?_
  refine J_seq ?_
  refine J_region ?_
  refine JO_read (vI u) rfl trivial (fun _ _ => rfl) ?_
  refine JO_read (vB (decide (u < 1))) rfl trivial (fun _ _ => x_lss_i rfl rfl) ?_
  refine JO_read (vB (decide (u < 1))) rfl trivial (fun _ _ => rfl) ?_
  refine JO_cut (X := Bool) 4 (fun z => z = ((decide (u < 1)) || (decide (u % 65536 = 0)))) (fun z => [(0, vI u), (2, vI 0), (3, vI 0), (4, vI 0), (5, vB false), (14, vB z)]) (fun _ => []) ?_ ?_
  · rcases Bool.eq_false_or_eq_true (decide (u < 1)) with g2 | g2
    · have g2r := g2
      have g2r := of_decide_eq_true g2r
      refine JO_shun rfl ⟨_, rfl, g2⟩ ?_
      refine JO_shun rfl ⟨_, rfl, g2⟩ ?_
      refine JO_shun rfl ⟨_, rfl, g2⟩ ?_
      refine JO_read (vB true) rfl trivial (fun _ _ => x_pick_t rfl g2 rfl) ?_
      refine JO_nil (JX_cut (true) (by rw [g2]; simp) ⟨rfl, rfl, rfl, rfl, rfl, rfl, trivial⟩ (fun _ h => h))
    · have g2r := g2
      have g2r := of_decide_eq_false g2r
      refine JO_read (vI u) rfl ⟨_, rfl, g2⟩ (fun _ _ => rfl) ?_
      refine JO_read (vI (u % 65536)) rfl ⟨_, rfl, g2⟩ (fun _ _ => x_rem_i (a := u) (b := 65536) rfl rfl (by omega) (by omega)) ?_
      refine JO_read (vB (decide (u % 65536 = 0))) rfl ⟨_, rfl, g2⟩ (fun _ _ => x_eql_i rfl rfl) ?_
      refine JO_read (vB (decide (u % 65536 = 0))) rfl trivial (fun _ _ => x_pick_f rfl g2 rfl) ?_
      refine JO_nil (JX_cut (decide (u % 65536 = 0)) (by rw [g2]; simp) ⟨rfl, rfl, rfl, rfl, rfl, rfl, trivial⟩ (fun _ h => h))
  rintro z1 rfl
  refine JO_nil ?_
  refine JX_then ?_
  refine J_cond ((decide (u < 1)) || (decide (u % 65536 = 0))) rfl rfl (fun h3 => ?_) (fun h3 => ?_)
  · simp only [Bool.and_eq_true, Bool.or_eq_true, Bool.and_eq_false_iff, Bool.or_eq_false_iff, Bool.not_eq_true', Bool.not_eq_false', decide_eq_true_eq, decide_eq_false_iff_not] at h3
    refine J_seq ?_
    refine J_region ?_
    refine JO_read (vI 0) rfl trivial (fun _ _ => rfl) ?_
    refine JO_read (vI 0) rfl trivial (fun _ _ => rfl) ?_
    refine JO_read (vI 0) rfl trivial (fun _ _ => rfl) ?_
    refine JO_read (vB false) rfl trivial (fun _ _ => rfl) ?_
    refine JO_nil ?_
    refine JX_then ?_
    refine J_ret ?_
    refine JX_then_ret ?_
    first
      | have hd := R47.parts_no (u := u) (by omega)
      | have hd := R47.parts_ok (u := u) (by omega)
    refine JX_rets [vI 0, vI 0, vI 0, vB false] (Value.tuple #[vI 0, vI 0, vI 0, vB false]) Tryd.results26 (fun w h => ⟨rfl, rfl, rfl, rfl, trivial⟩) rfl [] (fun _ h => h) ⟨?_, ?_⟩
    · have e_x0 : (0 : Int) = ((R47.parts u).1) := by
        first | (rw [hd]; done) | (rw [hd]; rfl)
      have e_x1 : (0 : Int) = ((R47.parts u).2.1) := by
        first | (rw [hd]; done) | (rw [hd]; rfl)
      have e_x2 : (0 : Int) = ((R47.parts u).2.2.1) := by
        first | (rw [hd]; done) | (rw [hd]; rfl)
      have e_x3 : (false : Bool) = ((R47.parts u).2.2.2) := by
        first | (rw [hd]; done) | (rw [hd]; rfl)
      have e_all := (congr (congr (congr (congrArg (fun (x0 : Int) (x1 : Int) (x2 : Int) (x3 : Bool) => Value.tuple #[vI x0, vI x1, vI x2, vB x3]) e_x0) e_x1) e_x2) e_x3)
      exact e_all
    · rfl
  · have ⟨h3, h4⟩ := bor_false h3
    have h3 := of_decide_eq_false h3
    have h4 := of_decide_eq_false h4
    refine J_skip ?_
    refine JX_then ?_
    refine J_seq ?_
    refine J_region ?_
    refine JO_read (vI u) rfl trivial (fun _ _ => rfl) ?_
    refine JO_read (vI (u / 65536)) rfl trivial (fun _ _ => x_quo_i (a := u) (b := 65536) rfl rfl (by omega) (by omega) (by omega)) ?_
    refine JO_read (vI (u / 65536)) rfl trivial (fun _ _ => rfl) ?_
    refine JO_nil ?_
    refine JX_then ?_
    refine J_seq ?_
    refine J_region ?_
    refine JO_read (vI (u / 65536)) rfl trivial (fun _ _ => rfl) ?_
    refine JO_read (vI ((u / 65536) / 4)) rfl trivial (fun _ _ => x_quo_i (a := u / 65536) (b := 4) rfl rfl (by omega) (by omega) (by omega)) ?_
    refine JO_read (vI ((u / 65536) / 4)) rfl trivial (fun _ _ => rfl) ?_
    refine JO_nil ?_
    refine JX_then ?_
    refine J_seq ?_
    refine J_seq ?_
    refine J_region ?_
    refine JO_read (vI ((u / 65536) / 4)) rfl trivial (fun _ _ => rfl) ?_
    refine JO_read (vB (decide ((u / 65536) / 4 < 1))) rfl trivial (fun _ _ => x_lss_i rfl rfl) ?_
    refine JO_read (vB (decide ((u / 65536) / 4 < 1))) rfl trivial (fun _ _ => rfl) ?_
    refine JO_cut (X := Bool) 3 (fun z => z = ((decide ((u / 65536) / 4 < 1)) || (decide ((65535 : Int) < (u / 65536) / 4)))) (fun z => [(0, vI u), (2, vI 0), (3, vI 0), (4, vI 0), (5, vB false), (6, vI (u / 65536)), (7, vI ((u / 65536) / 4)), (24, vB z)]) (fun _ => []) ?_ ?_
    · rcases Bool.eq_false_or_eq_true (decide ((u / 65536) / 4 < 1)) with g6 | g6
      · have g6r := g6
        have g6r := of_decide_eq_true g6r
        refine JO_shun rfl ⟨_, rfl, g6⟩ ?_
        refine JO_shun rfl ⟨_, rfl, g6⟩ ?_
        refine JO_read (vB true) rfl trivial (fun _ _ => x_pick_t rfl g6 rfl) ?_
        refine JO_nil (JX_cut (true) (by rw [g6]; simp) ⟨rfl, rfl, rfl, rfl, rfl, rfl, rfl, rfl, trivial⟩ (fun _ h => h))
      · have g6r := g6
        have g6r := of_decide_eq_false g6r
        refine JO_read (vI ((u / 65536) / 4)) rfl ⟨_, rfl, g6⟩ (fun _ _ => rfl) ?_
        refine JO_read (vB (decide ((65535 : Int) < (u / 65536) / 4))) rfl ⟨_, rfl, g6⟩ (fun _ _ => x_gtr_i rfl rfl) ?_
        refine JO_read (vB (decide ((65535 : Int) < (u / 65536) / 4))) rfl trivial (fun _ _ => x_pick_f rfl g6 rfl) ?_
        refine JO_nil (JX_cut (decide ((65535 : Int) < (u / 65536) / 4)) (by rw [g6]; simp) ⟨rfl, rfl, rfl, rfl, rfl, rfl, rfl, rfl, trivial⟩ (fun _ h => h))
    rintro z5 rfl
    refine JO_nil ?_
    refine JX_then ?_
    refine J_cond ((decide ((u / 65536) / 4 < 1)) || (decide ((65535 : Int) < (u / 65536) / 4))) rfl rfl (fun h7 => ?_) (fun h7 => ?_)
    · simp only [Bool.and_eq_true, Bool.or_eq_true, Bool.and_eq_false_iff, Bool.or_eq_false_iff, Bool.not_eq_true', Bool.not_eq_false', decide_eq_true_eq, decide_eq_false_iff_not] at h7
      refine J_seq ?_
      refine J_region ?_
      refine JO_read (vI 0) rfl trivial (fun _ _ => rfl) ?_
      refine JO_read (vI 0) rfl trivial (fun _ _ => rfl) ?_
      refine JO_read (vI 0) rfl trivial (fun _ _ => rfl) ?_
      refine JO_read (vB false) rfl trivial (fun _ _ => rfl) ?_
      refine JO_nil ?_
      refine JX_then ?_
      refine J_ret ?_
      refine JX_then_ret ?_
      first
        | have hd := R47.parts_no (u := u) (by omega)
        | have hd := R47.parts_ok (u := u) (by omega)
      refine JX_rets [vI 0, vI 0, vI 0, vB false] (Value.tuple #[vI 0, vI 0, vI 0, vB false]) Tryd.results26 (fun w h => ⟨rfl, rfl, rfl, rfl, trivial⟩) rfl [] (fun _ h => h) ⟨?_, ?_⟩
      · have e_x0 : (0 : Int) = ((R47.parts u).1) := by
          first | (rw [hd]; done) | (rw [hd]; rfl)
        have e_x1 : (0 : Int) = ((R47.parts u).2.1) := by
          first | (rw [hd]; done) | (rw [hd]; rfl)
        have e_x2 : (0 : Int) = ((R47.parts u).2.2.1) := by
          first | (rw [hd]; done) | (rw [hd]; rfl)
        have e_x3 : (false : Bool) = ((R47.parts u).2.2.2) := by
          first | (rw [hd]; done) | (rw [hd]; rfl)
        have e_all := (congr (congr (congr (congrArg (fun (x0 : Int) (x1 : Int) (x2 : Int) (x3 : Bool) => Value.tuple #[vI x0, vI x1, vI x2, vB x3]) e_x0) e_x1) e_x2) e_x3)
        exact e_all
      · rfl
    · have ⟨h7, h8⟩ := bor_false h7
      have h7 := of_decide_eq_false h7
      have h8 := of_decide_eq_false h8
      refine J_skip ?_
      refine JX_then ?_
      refine J_seq ?_
      refine J_region ?_
      refine JO_read (vI (u / 65536)) rfl trivial (fun _ _ => rfl) ?_
      refine JO_read (vI ((u / 65536) % 4)) rfl trivial (fun _ _ => x_rem_i (a := u / 65536) (b := 4) rfl rfl (by omega) (by omega)) ?_
      refine JO_read (vI (((u / 65536) % 4) + 1)) rfl trivial (fun _ _ => x_add_i (a := (u / 65536) % 4) (b := 1) rfl rfl (by omega) (by omega)) ?_
      refine JO_read (vI ((u / 65536) / 4)) rfl trivial (fun _ _ => rfl) ?_
      refine JO_read (vI u) rfl trivial (fun _ _ => rfl) ?_
      refine JO_read (vI (u % 65536)) rfl trivial (fun _ _ => x_rem_i (a := u) (b := 65536) rfl rfl (by omega) (by omega)) ?_
      refine JO_read (vI (((u / 65536) % 4) + 1)) rfl trivial (fun _ _ => rfl) ?_
      refine JO_read (vI ((u / 65536) / 4)) rfl trivial (fun _ _ => rfl) ?_
      refine JO_read (vI (u % 65536)) rfl trivial (fun _ _ => rfl) ?_
      refine JO_read (vB true) rfl trivial (fun _ _ => rfl) ?_
      refine JO_nil ?_
      refine JX_then ?_
      refine J_ret ?_
      first
        | have hd := R47.parts_no (u := u) (by omega)
        | have hd := R47.parts_ok (u := u) (by omega)
      refine JX_rets [vI (((u / 65536) % 4) + 1), vI ((u / 65536) / 4), vI (u % 65536), vB true] (Value.tuple #[vI (((u / 65536) % 4) + 1), vI ((u / 65536) / 4), vI (u % 65536), vB true]) Tryd.results26 (fun w h => ⟨rfl, rfl, rfl, rfl, trivial⟩) rfl [] (fun _ h => h) ⟨?_, ?_⟩
      · have e_x0 : (((u / 65536) % 4) + 1 : Int) = ((R47.parts u).1) := by
          first | (rw [hd]; done) | (rw [hd]; rfl)
        have e_x1 : ((u / 65536) / 4 : Int) = ((R47.parts u).2.1) := by
          first | (rw [hd]; done) | (rw [hd]; rfl)
        have e_x2 : (u % 65536 : Int) = ((R47.parts u).2.2.1) := by
          first | (rw [hd]; done) | (rw [hd]; rfl)
        have e_x3 : (true : Bool) = ((R47.parts u).2.2.2) := by
          first | (rw [hd]; done) | (rw [hd]; rfl)
        have e_all := (congr (congr (congr (congrArg (fun (x0 : Int) (x1 : Int) (x2 : Int) (x3 : Bool) => Value.tuple #[vI x0, vI x1, vI x2, vB x3]) e_x0) e_x1) e_x2) e_x3)
        exact e_all
      · rfl

set_option maxRecDepth 20000 in
theorem f19_ok (u : Int) (k : Int) (w : World) : Calls Tryd.prog 19 #[vI u, vI k] w (Gives [] w fun v L => v = Value.tuple #[vI ((R47.idn u k).1), vI ((R47.idn u k).2)] ∧ L = []) := by
  refine calls_J [] 24 Tryd.func19 rfl Tryd.ntmps19 [(0, vI u), (1, vI k)] rfl rfl (Give.nil w) ?_
  refine J_seq ?_
  refine J_region ?_
  refine JO_read (vI 0) rfl trivial (fun _ _ => rfl) ?_
  refine JO_read (vI 0) rfl trivial (fun _ _ => rfl) ?_
  refine JO_nil ?_
  refine JX_then ?_
  refine J_seq ?_
  refine J_seq ?_
  refine J_region ?_
  refine JO_read (vI u) rfl trivial (fun _ _ => rfl) ?_
  refine JO_read (vB (decide (u < 1))) rfl trivial (fun _ _ => x_lss_i rfl rfl) ?_
  refine JO_read (vB (decide (u < 1))) rfl trivial (fun _ _ => rfl) ?_
  refine JO_cut (X := Bool) 3 (fun z => z = ((decide (u < 1)) || (decide ((68719476735 : Int) < u)))) (fun z => [(0, vI u), (1, vI k), (4, vI 0), (5, vI 0), (11, vB z)]) (fun _ => []) ?_ ?_
  · rcases Bool.eq_false_or_eq_true (decide (u < 1)) with g2 | g2
    · have g2r := g2
      have g2r := of_decide_eq_true g2r
      refine JO_shun rfl ⟨_, rfl, g2⟩ ?_
      refine JO_shun rfl ⟨_, rfl, g2⟩ ?_
      refine JO_read (vB true) rfl trivial (fun _ _ => x_pick_t rfl g2 rfl) ?_
      refine JO_nil (JX_cut (true) (by rw [g2]; simp) ⟨rfl, rfl, rfl, rfl, rfl, trivial⟩ (fun _ h => h))
    · have g2r := g2
      have g2r := of_decide_eq_false g2r
      refine JO_read (vI u) rfl ⟨_, rfl, g2⟩ (fun _ _ => rfl) ?_
      refine JO_read (vB (decide ((68719476735 : Int) < u))) rfl ⟨_, rfl, g2⟩ (fun _ _ => x_gtr_i rfl rfl) ?_
      refine JO_read (vB (decide ((68719476735 : Int) < u))) rfl trivial (fun _ _ => x_pick_f rfl g2 rfl) ?_
      refine JO_nil (JX_cut (decide ((68719476735 : Int) < u)) (by rw [g2]; simp) ⟨rfl, rfl, rfl, rfl, rfl, trivial⟩ (fun _ h => h))
  rintro z1 rfl
  refine JO_read (vB ((decide (u < 1)) || (decide ((68719476735 : Int) < u)))) rfl trivial (fun _ _ => rfl) ?_
  refine JO_cut (X := Bool) 3 (fun z => z = (((decide (u < 1)) || (decide ((68719476735 : Int) < u))) || (decide (k < 0)))) (fun z => [(0, vI u), (1, vI k), (4, vI 0), (5, vI 0), (15, vB z)]) (fun _ => []) ?_ ?_
  · rcases Bool.eq_false_or_eq_true ((decide (u < 1)) || (decide ((68719476735 : Int) < u))) with g4 | g4
    · have g4r := g4
      simp only [Bool.and_eq_true, Bool.or_eq_true, Bool.and_eq_false_iff, Bool.or_eq_false_iff, Bool.not_eq_true', Bool.not_eq_false', decide_eq_true_eq, decide_eq_false_iff_not] at g4r
      refine JO_shun rfl ⟨_, rfl, g4⟩ ?_
      refine JO_shun rfl ⟨_, rfl, g4⟩ ?_
      refine JO_read (vB true) rfl trivial (fun _ _ => x_pick_t rfl g4 rfl) ?_
      refine JO_nil (JX_cut (true) (by rw [g4]; simp) ⟨rfl, rfl, rfl, rfl, rfl, trivial⟩ (fun _ h => h))
    · have g4r := g4
      have ⟨g4r, h5⟩ := bor_false g4r
      have g4r := of_decide_eq_false g4r
      have h5 := of_decide_eq_false h5
      refine JO_read (vI k) rfl ⟨_, rfl, g4⟩ (fun _ _ => rfl) ?_
      refine JO_read (vB (decide (k < 0))) rfl ⟨_, rfl, g4⟩ (fun _ _ => x_lss_i rfl rfl) ?_
      refine JO_read (vB (decide (k < 0))) rfl trivial (fun _ _ => x_pick_f rfl g4 rfl) ?_
      refine JO_nil (JX_cut (decide (k < 0)) (by rw [g4]; simp) ⟨rfl, rfl, rfl, rfl, rfl, trivial⟩ (fun _ h => h))
  rintro z3 rfl
  refine JO_read (vB (((decide (u < 1)) || (decide ((68719476735 : Int) < u))) || (decide (k < 0)))) rfl trivial (fun _ _ => rfl) ?_
  refine JO_cut (X := Bool) 3 (fun z => z = ((((decide (u < 1)) || (decide ((68719476735 : Int) < u))) || (decide (k < 0))) || (decide ((16 : Int) ≤ k)))) (fun z => [(0, vI u), (1, vI k), (4, vI 0), (5, vI 0), (19, vB z)]) (fun _ => []) ?_ ?_
  · rcases Bool.eq_false_or_eq_true (((decide (u < 1)) || (decide ((68719476735 : Int) < u))) || (decide (k < 0))) with g7 | g7
    · have g7r := g7
      simp only [Bool.and_eq_true, Bool.or_eq_true, Bool.and_eq_false_iff, Bool.or_eq_false_iff, Bool.not_eq_true', Bool.not_eq_false', decide_eq_true_eq, decide_eq_false_iff_not] at g7r
      refine JO_shun rfl ⟨_, rfl, g7⟩ ?_
      refine JO_shun rfl ⟨_, rfl, g7⟩ ?_
      refine JO_read (vB true) rfl trivial (fun _ _ => x_pick_t rfl g7 rfl) ?_
      refine JO_nil (JX_cut (true) (by rw [g7]; simp) ⟨rfl, rfl, rfl, rfl, rfl, trivial⟩ (fun _ h => h))
    · have g7r := g7
      have ⟨g7r, h8⟩ := bor_false g7r
      have ⟨g7r, h9⟩ := bor_false g7r
      have g7r := of_decide_eq_false g7r
      have h9 := of_decide_eq_false h9
      have h8 := of_decide_eq_false h8
      refine JO_read (vI k) rfl ⟨_, rfl, g7⟩ (fun _ _ => rfl) ?_
      refine JO_read (vB (decide ((16 : Int) ≤ k))) rfl ⟨_, rfl, g7⟩ (fun _ _ => x_geq_i rfl rfl) ?_
      refine JO_read (vB (decide ((16 : Int) ≤ k))) rfl trivial (fun _ _ => x_pick_f rfl g7 rfl) ?_
      refine JO_nil (JX_cut (decide ((16 : Int) ≤ k)) (by rw [g7]; simp) ⟨rfl, rfl, rfl, rfl, rfl, trivial⟩ (fun _ h => h))
  rintro z6 rfl
  refine JO_nil ?_
  refine JX_then ?_
  refine J_cond ((((decide (u < 1)) || (decide ((68719476735 : Int) < u))) || (decide (k < 0))) || (decide ((16 : Int) ≤ k))) rfl rfl (fun h10 => ?_) (fun h10 => ?_)
  · simp only [Bool.and_eq_true, Bool.or_eq_true, Bool.and_eq_false_iff, Bool.or_eq_false_iff, Bool.not_eq_true', Bool.not_eq_false', decide_eq_true_eq, decide_eq_false_iff_not] at h10
    refine J_seq ?_
    refine J_region ?_
    refine JO_read (vI 0) rfl trivial (fun _ _ => rfl) ?_
    refine JO_read (vI 2) rfl trivial (fun _ _ => rfl) ?_
    refine JO_nil ?_
    refine JX_then ?_
    refine J_ret ?_
    refine JX_then_ret ?_
    first
      | have hd := R47.idn_no (u := u) (k := k) (by omega)
      | have hd := R47.idn_ok (u := u) (k := k) (by omega)
    refine JX_rets [vI 0, vI 2] (Value.tuple #[vI 0, vI 2]) Tryd.results19 (fun w h => ⟨rfl, rfl, trivial⟩) rfl [] (fun _ h => h) ⟨?_, ?_⟩
    · have e_x0 : (0 : Int) = ((R47.idn u k).1) := by
        first | (rw [hd]; done) | (rw [hd]; rfl)
      have e_x1 : (2 : Int) = ((R47.idn u k).2) := by
        first | (rw [hd]; done) | (rw [hd]; rfl)
      have e_all := (congr (congrArg (fun (x0 : Int) (x1 : Int) => Value.tuple #[vI x0, vI x1]) e_x0) e_x1)
      exact e_all
    · rfl
  · have ⟨h10, h11⟩ := bor_false h10
    have ⟨h10, h12⟩ := bor_false h10
    have ⟨h10, h13⟩ := bor_false h10
    have h10 := of_decide_eq_false h10
    have h13 := of_decide_eq_false h13
    have h12 := of_decide_eq_false h12
    have h11 := of_decide_eq_false h11
    refine J_skip ?_
    refine JX_then ?_
    refine J_seq ?_
    refine J_region ?_
    refine JO_read (vI u) rfl trivial (fun _ _ => rfl) ?_
    refine JO_read (vI (16 * u)) rfl trivial (fun _ _ => x_mul_i (a := 16) (b := u) rfl rfl (by omega) (by omega)) ?_
    refine JO_read (vI k) rfl trivial (fun _ _ => rfl) ?_
    refine JO_read (vI ((16 * u) + k)) rfl trivial (fun _ _ => x_add_i (a := 16 * u) (b := k) rfl rfl (by omega) (by omega)) ?_
    refine JO_read (vI ((16 * u) + k)) rfl trivial (fun _ _ => rfl) ?_
    refine JO_read (vI 0) rfl trivial (fun _ _ => rfl) ?_
    refine JO_nil ?_
    refine JX_then ?_
    refine J_ret ?_
    first
      | have hd := R47.idn_no (u := u) (k := k) (by omega)
      | have hd := R47.idn_ok (u := u) (k := k) (by omega)
    refine JX_rets [vI ((16 * u) + k), vI 0] (Value.tuple #[vI ((16 * u) + k), vI 0]) Tryd.results19 (fun w h => ⟨rfl, rfl, trivial⟩) rfl [] (fun _ h => h) ⟨?_, ?_⟩
    · have e_x0 : ((16 * u) + k : Int) = ((R47.idn u k).1) := by
        first | (rw [hd]; done) | (rw [hd]; rfl)
      have e_x1 : (0 : Int) = ((R47.idn u k).2) := by
        first | (rw [hd]; done) | (rw [hd]; rfl)
      have e_all := (congr (congrArg (fun (x0 : Int) (x1 : Int) => Value.tuple #[vI x0, vI x1]) e_x0) e_x1)
      exact e_all
    · rfl

set_option maxRecDepth 20000 in
theorem f20_ok (id : Int) (w : World) : Calls Tryd.prog 20 #[vI id] w (Gives [] w fun v L => v = vI (R47.creator id) ∧ L = []) := by
  refine calls_J [] 11 Tryd.func20 rfl Tryd.ntmps20 [(0, vI id)] rfl rfl (Give.nil w) ?_
  refine J_seq ?_
  refine J_region ?_
  refine JO_read (vI 0) rfl trivial (fun _ _ => rfl) ?_
  refine JO_nil ?_
  refine JX_then ?_
  refine J_seq ?_
  refine J_seq ?_
  refine J_region ?_
  refine JO_read (vI id) rfl trivial (fun _ _ => rfl) ?_
  refine JO_read (vB (decide (id < 16))) rfl trivial (fun _ _ => x_lss_i rfl rfl) ?_
  refine JO_read (vB (decide (id < 16))) rfl trivial (fun _ _ => rfl) ?_
  refine JO_cut (X := Bool) 3 (fun z => z = ((decide (id < 16)) || (decide ((1099511627776 : Int) < id)))) (fun z => [(0, vI id), (2, vI 0), (8, vB z)]) (fun _ => []) ?_ ?_
  · rcases Bool.eq_false_or_eq_true (decide (id < 16)) with g2 | g2
    · have g2r := g2
      have g2r := of_decide_eq_true g2r
      refine JO_shun rfl ⟨_, rfl, g2⟩ ?_
      refine JO_shun rfl ⟨_, rfl, g2⟩ ?_
      refine JO_read (vB true) rfl trivial (fun _ _ => x_pick_t rfl g2 rfl) ?_
      refine JO_nil (JX_cut (true) (by rw [g2]; simp) ⟨rfl, rfl, rfl, trivial⟩ (fun _ h => h))
    · have g2r := g2
      have g2r := of_decide_eq_false g2r
      refine JO_read (vI id) rfl ⟨_, rfl, g2⟩ (fun _ _ => rfl) ?_
      refine JO_read (vB (decide ((1099511627776 : Int) < id))) rfl ⟨_, rfl, g2⟩ (fun _ _ => x_gtr_i rfl rfl) ?_
      refine JO_read (vB (decide ((1099511627776 : Int) < id))) rfl trivial (fun _ _ => x_pick_f rfl g2 rfl) ?_
      refine JO_nil (JX_cut (decide ((1099511627776 : Int) < id)) (by rw [g2]; simp) ⟨rfl, rfl, rfl, trivial⟩ (fun _ h => h))
  rintro z1 rfl
  refine JO_nil ?_
  refine JX_then ?_
  refine J_cond ((decide (id < 16)) || (decide ((1099511627776 : Int) < id))) rfl rfl (fun h3 => ?_) (fun h3 => ?_)
  · simp only [Bool.and_eq_true, Bool.or_eq_true, Bool.and_eq_false_iff, Bool.or_eq_false_iff, Bool.not_eq_true', Bool.not_eq_false', decide_eq_true_eq, decide_eq_false_iff_not] at h3
    refine J_seq ?_
    refine J_region ?_
    refine JO_read (vI 0) rfl trivial (fun _ _ => rfl) ?_
    refine JO_nil ?_
    refine JX_then ?_
    refine J_ret ?_
    refine JX_then_ret ?_
    refine JX_rets [vI 0] (vI 0) Tryd.results20 (fun w h => ⟨rfl, trivial⟩) rfl [] (fun _ h => h) ⟨?_, ?_⟩
    · have e_x0 : (0 : Int) = (R47.creator id) := by
        first | exact (R47.creator_no (by omega)).symm | exact (R47.creator_ok (by omega)).symm
      exact congrArg (fun (x0 : Int) => vI x0) e_x0
    · rfl
  · have ⟨h3, h4⟩ := bor_false h3
    have h3 := of_decide_eq_false h3
    have h4 := of_decide_eq_false h4
    refine J_skip ?_
    refine JX_then ?_
    refine J_seq ?_
    refine J_region ?_
    refine JO_read (vI id) rfl trivial (fun _ _ => rfl) ?_
    refine JO_read (vI (id / 16)) rfl trivial (fun _ _ => x_quo_i (a := id) (b := 16) rfl rfl (by omega) (by omega) (by omega)) ?_
    refine JO_read (vI (id / 16)) rfl trivial (fun _ _ => rfl) ?_
    refine JO_nil ?_
    refine JX_then ?_
    refine J_ret ?_
    refine JX_rets [vI (id / 16)] (vI (id / 16)) Tryd.results20 (fun w h => ⟨rfl, trivial⟩) rfl [] (fun _ h => h) ⟨?_, ?_⟩
    · have e_x0 : (id / 16 : Int) = (R47.creator id) := by
        first | exact (R47.creator_no (by omega)).symm | exact (R47.creator_ok (by omega)).symm
      exact congrArg (fun (x0 : Int) => vI x0) e_x0
    · rfl

end Go.Proofs.YtknibpmmjhmjeaaDoor
