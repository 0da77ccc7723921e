/- contracts C27k -/
import Derived.Test.YtmbinhhlfbgiaaaC27j
import Derived.Test.YtmbinhhlfbgiaaaPl27e
namespace Go.Proofs.Ytmbinhhlfbgiaaa
open Go.GV
set_option linter.unusedVariables false
set_option linter.unusedSimpArgs false
set_option maxRecDepth 20000 in
theorem f34_ok (l : List Change) (lA : Option Addr) (lC : Nat) (w : World) (lR : RO [] w lA (l.flatMap Change.enc)) (q0 : l.length ≤ 9223372036854775807) : Calls Try.prog 34 #[Value.slice lA l.length lC] w (Gives [] w fun v L => v = vB (R27.rising [] l) ∧ L = []) := by
 refine calls_J [] 29 Try.func34 rfl Try.ntmps34 [(0, Value.slice lA l.length lC)] rfl rfl (Give.nil w) ?_
 refine J_seq (J_region ?_)
 refine jr_ (vB false) ?_
 refine JO_nil (JX_then (J_seq (J_region ?_)))
 refine jr_ (vS []) ?_
 refine JO_nil (JX_then (J_seq (J_seq (J_region ?_))))
 refine jr_ (vI 0) ?_
 refine JO_nil (JX_then (J_block ?_))
 refine J_loop (X := Nat × Bytes) (fun (⟨k, last⟩ : Nat × Bytes) => (k ≤ l.length) ∧ (R27.rising [] l = R27.rising last (l.drop k))) (fun (⟨k, last⟩ : Nat × Bytes) => [(0, Value.slice lA l.length lC), (3, vS last), (4, vI ((k : Nat) : Int))]) (fun (⟨k, last⟩ : Nat × Bytes) => []) (fun (⟨k, last⟩ : Nat × Bytes) => l.length - k) ((0, []) : Nat × Bytes) ?_ ⟨rfl, rfl, rfl, trivial⟩ (fun _ h => h) ?_
 ·show (0 ≤ l.length) ∧ (R27.rising [] l = R27.rising [] (l.drop 0))
  refine ⟨?_, ?_⟩
  ·first | rfl | omega | (simp_all; done) | (simp_all; omega)
  ·rfl
 rintro ⟨k, last⟩ hI1
 obtain ⟨i1_0, i1_1⟩ : (k ≤ l.length) ∧ (R27.rising [] l = R27.rising last (l.drop k)) := hI1
 refine J_weaken (E' := [(0, Value.slice lA l.length lC), (3, vS last), (4, vI ((k : Nat) : Int))]) (L' := []) ⟨rfl, rfl, rfl, trivial⟩ (fun _ h => h) ?_
 refine J_seq (J_seq (J_region ?_))
 refine jr_ (vI ((k : Nat) : Int)) ?_
 refine jr_ (Value.slice lA l.length lC) ?_
 refine js_ (vI ((l.length : Nat) : Int)) (x_len_sl Try.underlying31 rfl) ?_
 refine js_ (vB (decide (((k : Nat) : Int) < ((l.length : Nat) : Int)))) (x_lss_i rfl rfl) ?_
 refine JO_nil (JX_then ?_)
 refine J_cond (decide (((k : Nat) : Int) < ((l.length : Nat) : Int))) rfl rfl (fun h1 => ?_) (fun h1 => ?_)
 ·have h1w := h1
  have h1 := of_decide_eq_true h1
  refine J_skip (JX_then (J_seq (J_block (J_seq (J_region ?_)))))
  refine jr_ (Value.slice lA l.length lC) ?_
  refine jr_ (vI ((k : Nat) : Int)) ?_
  refine JO_read (Value.pointer (some (adr lA (k * 5)))) rfl trivial (x_indexAddr_at (k := k) (off := k * 5) (cells_ro lR) Try.underlying31 Ty.sz27 rfl rfl lt_ (by rw [flat_length Change.enc 5 Change.enc_len]; first | omega | (simp; omega) | (simp_all; omega) | (simp_all; done)) rfl) ?_
  refine js_ (Value.pointer (some (adr lA (k * 5)))) (x_fieldAddr Ty.fi27_0 rfl rfl) ?_
  refine JO_read (vI ((l.getD k default).Kind)) rfl trivial (x_load_at (cells_ro lR) rfl Ty.sc3 (flat_at Change.enc 5 Change.enc_len l default k 0 lt_ (by decide))) ?_
  refine js_ (vB (decide ((l.getD k default).Kind = 2))) (x_eql_i rfl rfl) ?_
  refine JO_nil (JX_then ?_)
  refine J_cond (decide ((l.getD k default).Kind = 2)) rfl rfl (fun h2 => ?_) (fun h2 => ?_)
  ·have h2w := h2
   have h2 := of_decide_eq_true h2
   refine J_seq (J_seq (J_region ?_))
   refine jr_ (Value.slice lA l.length lC) ?_
   refine jr_ (vI ((k : Nat) : Int)) ?_
   refine JO_read (Value.pointer (some (adr lA (k * 5)))) rfl trivial (x_indexAddr_at (k := k) (off := k * 5) (cells_ro lR) Try.underlying31 Ty.sz27 rfl rfl lt_ (by rw [flat_length Change.enc 5 Change.enc_len]; first | omega | (simp; omega) | (simp_all; omega) | (simp_all; done)) rfl) ?_
   refine js_ (Value.pointer (some (adr lA (k * 5 + 2)))) (x_fieldAddr Ty.fi27_2 rfl (adr_add _ _ _)) ?_
   refine JO_read (vS ((l.getD k default).Key)) rfl trivial (x_load_at (cells_ro lR) rfl Ty.sc9 (flat_at Change.enc 5 Change.enc_len l default k 2 lt_ (by decide))) ?_
   refine jr_ (vS last) ?_
   refine js_ (vB ((Op.bytesLess ((l.getD k default).Key) last) || (decide ((l.getD k default).Key = last)))) (x_leq_s rfl rfl) ?_
   refine JO_nil (JX_then ?_)
   refine J_cond ((Op.bytesLess ((l.getD k default).Key) last) || (decide ((l.getD k default).Key = last))) rfl rfl (fun h3 => ?_) (fun h3 => ?_)
   ·have h3w := h3
    simp only [Bool.and_eq_true, Bool.or_eq_true, Bool.and_eq_false_iff, Bool.or_eq_false_iff, Bool.not_eq_true', Bool.not_eq_false', decide_eq_true_eq, decide_eq_false_iff_not] at h3
    refine J_seq (J_region ?_)
    refine jr_ (vB false) ?_
    refine JO_nil (JX_then (J_ret (JX_then_ret (JX_block_ret (JX_then_ret ?_)))))
    refine JX_round_ret (JX_block_ret (JX_then_ret ?_))
    refine JX_rets [vB false] (vB false) Try.results34 (fun w h => ⟨rfl, trivial⟩) rfl [] (fun _ h => h) ⟨?_, ?_⟩
    ·have e_x0 : (false : Bool) = (R27.rising [] l) := by first | exact R27.rise_bad (by omega) (by assumption) (by assumption) i1_1 | exact R27.rise_end (by omega) i1_1
     exact congrArg (fun (x0 : Bool) => vB x0) e_x0
    ·rfl
   ·have h3w := h3
    have ⟨h3, h4⟩ := bor_false h3
    have h4 := of_decide_eq_false h4
    refine J_skip (JX_then (J_region ?_))
    refine jr_ (Value.slice lA l.length lC) ?_
    refine jr_ (vI ((k : Nat) : Int)) ?_
    refine JO_read (Value.pointer (some (adr lA (k * 5)))) rfl trivial (x_indexAddr_at (k := k) (off := k * 5) (cells_ro lR) Try.underlying31 Ty.sz27 rfl rfl lt_ (by rw [flat_length Change.enc 5 Change.enc_len]; first | omega | (simp; omega) | (simp_all; omega) | (simp_all; done)) rfl) ?_
    refine js_ (Value.pointer (some (adr lA (k * 5 + 2)))) (x_fieldAddr Ty.fi27_2 rfl (adr_add _ _ _)) ?_
    refine JO_read (vS ((l.getD k default).Key)) rfl trivial (x_load_at (cells_ro lR) rfl Ty.sc9 (flat_at Change.enc 5 Change.enc_len l default k 2 lt_ (by decide))) ?_
    refine jr_ (vS ((l.getD k default).Key)) ?_
    refine JO_nil (JX_block (JX_then (J_region ?_)))
    refine jr_ (vI ((k : Nat) : Int)) ?_
    refine js_ (vI ((k + 1 : Nat) : Int)) (x_add_n (a := k) (b := 1) rfl rfl (by omega)) ?_
    refine jr_ (vI ((k + 1 : Nat) : Int)) ?_
    refine JO_nil ?_
    refine JX_round ((k + 1, (l.getD k default).Key) : Nat × Bytes) ?_ ?_ ⟨rfl, rfl, rfl, trivial⟩ (fun _ h => h)
    ·show ((k + 1) ≤ l.length) ∧ (R27.rising [] l = R27.rising ((l.getD k default).Key) (l.drop (k + 1)))
     refine ⟨?_, ?_⟩
     ·first | rfl | omega | (simp_all; done) | (simp_all; omega)
     ·first | exact R27.rise_step (by omega) (by assumption) (by assumption) i1_1 | exact R27.rise_skip (by omega) (by assumption) i1_1
    ·show l.length - (k + 1) < l.length - k
     first | omega | (simp; omega) | (simp_all; omega)
  ·have h2w := h2
   have h2 := of_decide_eq_false h2
   refine J_skip (JX_block (JX_then (J_region ?_)))
   refine jr_ (vI ((k : Nat) : Int)) ?_
   refine js_ (vI ((k + 1 : Nat) : Int)) (x_add_n (a := k) (b := 1) rfl rfl (by omega)) ?_
   refine jr_ (vI ((k + 1 : Nat) : Int)) ?_
   refine JO_nil ?_
   refine JX_round ((k + 1, last) : Nat × Bytes) ?_ ?_ ⟨rfl, rfl, rfl, trivial⟩ (fun _ h => h)
   ·show ((k + 1) ≤ l.length) ∧ (R27.rising [] l = R27.rising last (l.drop (k + 1)))
    refine ⟨?_, ?_⟩
    ·first | rfl | omega | (simp_all; done) | (simp_all; omega)
    ·first | exact R27.rise_step (by omega) (by assumption) (by assumption) i1_1 | exact R27.rise_skip (by omega) (by assumption) i1_1
   ·show l.length - (k + 1) < l.length - k
    first | omega | (simp; omega) | (simp_all; omega)
 ·have h1w := h1
  have h1 := of_decide_eq_false h1
  refine J_exit (JX_then_exit (JX_round_exit (JX_block_hit (JX_then (J_seq ?_)))))
  refine J_region ?_
  refine jr_ (vB true) ?_
  refine JO_nil (JX_then (J_ret ?_))
  refine JX_rets [vB true] (vB true) Try.results34 (fun w h => ⟨rfl, trivial⟩) rfl [] (fun _ h => h) ⟨?_, ?_⟩
  ·have e_x0 : (true : Bool) = (R27.rising [] l) := by first | exact R27.rise_bad (by omega) (by assumption) (by assumption) i1_1 | exact R27.rise_end (by omega) i1_1
   exact congrArg (fun (x0 : Bool) => vB x0) e_x0
  ·rfl
set_option maxRecDepth 20000 in
theorem f13_ok (base : DataSet) (alts : List DataSet) (altsA : Option Addr) (altsC : Nat) (l : List Change) (lA : Option Addr) (lC : Nat) (w : World) (altsR : RO [] w altsA (alts.flatMap DataSet.enc)) (lR : RO [] w lA (l.flatMap Change.enc)) (q0 : alts.length ≤ 9223372036854775807) (q1 : l.length ≤ 9223372036854775807) : Calls Try.prog 13 #[Value.agg ((DataSet.enc base)).toArray, Value.slice altsA alts.length altsC, Value.slice lA l.length lC] w (Gives [] w fun v L => v = vB (((R27.isSphere base alts) && (R27.short l 41)) && (R27.rising [] l)) ∧ L = []) := by
 refine calls_J [] 18 Try.func13 rfl Try.ntmps13 [(0, Value.agg ((DataSet.enc base)).toArray), (1, Value.slice altsA alts.length altsC), (2, Value.slice lA l.length lC)] rfl rfl (Give.nil w) ?_
 refine J_seq (J_region ?_)
 refine JO_op rfl trivial (O_box rfl rfl fun b1 => ?_)
 refine jr_ (vB false) ?_
 refine JO_nil (JX_then (J_seq (J_region ?_)))
 refine JO_read (Value.agg ((DataSet.enc base)).toArray) rfl trivial (x_loadN 0 (DataSet.enc base) rfl rfl Ty.ag24 Ty.sz24 rfl) ?_
 refine jr_ (Value.slice altsA alts.length altsC) ?_
 refine JO_call [] [] [Ent.blk b1 24 (DataSet.enc base)] rfl trivial (fun _ => x_call Ty.ca30 rfl) (fun _ h => h) (fun _ h => by cases h) (fun w hS => f30_ok base alts altsA altsC w (altsR.on hS (fun _ h => by cases h)) hy_) ?_
 rintro _ _ ⟨rfl, rfl⟩
 refine jr_ (vB (R27.isSphere base alts)) ?_
 refine JO_cut 3 (fun z => z = ((R27.isSphere base alts) && (R27.short l 41))) (fun z => [(2, Value.slice lA l.length lC), (6, vB false), (13, vB z)]) (fun _ => [Ent.blk b1 24 (DataSet.enc base)]) ?_ ?_
 ·rcases Bool.eq_false_or_eq_true (R27.isSphere base alts) with g3 | g3
  ·have g3r := g3
   have hi4 := R27.isSphere_valid g3r
   refine jg_ g3 (Value.slice lA l.length lC) (rfl) ?_
   refine JO_call [] [] [Ent.blk b1 24 (DataSet.enc base)] rfl ⟨_, rfl, g3⟩ (fun _ => x_call Ty.ca9 rfl) (fun _ h => h) (fun _ h => by cases h) (fun w hS => f9_ok l lA lC 41 w (lR.on hS (fun _ h => by cases h)) hy_) ?_
   rintro _ _ ⟨rfl, rfl⟩
   refine js_ (vB (R27.short l 41)) (x_pick_t rfl g3 rfl) ?_
   refine JO_nil (JX_cut (R27.short l 41) (by rw [g3]; simp) ⟨rfl, rfl, rfl, trivial⟩ (fun _ h => h))
  ·have g3r := g3
   refine sh_ g3 ?_
   refine sh_ g3 ?_
   refine js_ (vB false) (x_pick_f rfl g3 rfl) ?_
   refine JO_nil (JX_cut (false) (by rw [g3]; simp) ⟨rfl, rfl, rfl, trivial⟩ (fun _ h => h))
 rintro z2 rfl
 refine jr_ (vB ((R27.isSphere base alts) && (R27.short l 41))) ?_
 refine JO_cut 3 (fun z => z = (((R27.isSphere base alts) && (R27.short l 41)) && (R27.rising [] l))) (fun z => [(6, vB false), (17, vB z)]) (fun _ => [Ent.blk b1 24 (DataSet.enc base)]) ?_ ?_
 ·rcases Bool.eq_false_or_eq_true ((R27.isSphere base alts) && (R27.short l 41)) with g6 | g6
  ·have g6r := g6
   have ⟨g6r, h7⟩ := band_true g6r
   have hi8 := R27.isSphere_valid g6r
   have hi9 := R27.short_len2 h7
   refine jg_ g6 (Value.slice lA l.length lC) (rfl) ?_
   refine JO_call [] [] [Ent.blk b1 24 (DataSet.enc base)] rfl ⟨_, rfl, g6⟩ (fun _ => x_call Ty.ca34 rfl) (fun _ h => h) (fun _ h => by cases h) (fun w hS => f34_ok l lA lC w (lR.on hS (fun _ h => by cases h)) hy_) ?_
   rintro _ _ ⟨rfl, rfl⟩
   refine js_ (vB (R27.rising [] l)) (x_pick_t rfl g6 rfl) ?_
   refine JO_nil (JX_cut (R27.rising [] l) (by rw [g6]; simp) ⟨rfl, rfl, trivial⟩ (fun _ h => h))
  ·have g6r := g6
   simp only [Bool.and_eq_true, Bool.or_eq_true, Bool.and_eq_false_iff, Bool.or_eq_false_iff, Bool.not_eq_true', Bool.not_eq_false', decide_eq_true_eq, decide_eq_false_iff_not] at g6r
   refine sh_ g6 ?_
   refine sh_ g6 ?_
   refine js_ (vB false) (x_pick_f rfl g6 rfl) ?_
   refine JO_nil (JX_cut (false) (by rw [g6]; simp) ⟨rfl, rfl, trivial⟩ (fun _ h => h))
 rintro z5 rfl
 refine jr_ (vB (((R27.isSphere base alts) && (R27.short l 41)) && (R27.rising [] l))) ?_
 refine JO_nil (JX_then (J_ret ?_))
 refine JX_rets [vB (((R27.isSphere base alts) && (R27.short l 41)) && (R27.rising [] l))] (vB (((R27.isSphere base alts) && (R27.short l 41)) && (R27.rising [] l))) Try.results13 (fun w h => ⟨rfl, trivial⟩) rfl [] (fun _ h => h.keep [false] rfl) ⟨?_, ?_⟩
 ·rfl
 ·rfl
set_option maxRecDepth 20000 in
theorem f16_ok (ds : List Data) (dsA : Option Addr) (dsC : Nat) (id : Int) (w : World) (dsR : RO [] w dsA (ds.flatMap Data.enc)) (dsN : ∀ i : Nat, RO [] w (ds.getD i default).PairsA (((ds.getD i default).Pairs).flatMap Pair.enc)) (q0 : ds.length ≤ 1000) (q1 : ∀ i, (ds.getD i default).Pairs.length ≤ 1000) : Calls Try.prog 16 #[Value.agg #[Value.slice dsA ds.length dsC, Value.pointer none], vI id] w (Gives [] w fun v L => v = Value.slice (R27.ofD ds id).PairsA ((R27.ofD ds id).Pairs.length) ((R27.ofD ds id).PairsC) ∧ L = []) := by
 refine calls_J [] 8 Try.func16 rfl Try.ntmps16 [(0, Value.agg #[Value.slice dsA ds.length dsC, Value.pointer none]), (1, vI id)] rfl rfl (Give.nil w) ?_
 refine J_seq (J_region ?_)
 refine JO_op rfl trivial (O_box rfl rfl fun b1 => ?_)
 refine jr_ (Value.slice none 0 0) ?_
 refine JO_nil (JX_then (J_seq (J_region ?_)))
 refine JO_read (Value.agg #[Value.slice dsA ds.length dsC, Value.pointer none]) rfl trivial (x_loadN 0 [Value.slice dsA ds.length dsC, Value.pointer none] rfl rfl Ty.ag34 Ty.sz34 rfl) ?_
 refine jr_ (vI id) ?_
 refine JO_call [] [] [Ent.blk b1 34 [Value.slice dsA ds.length dsC, Value.pointer none]] rfl trivial (fun _ => x_call Ty.ca38 rfl) (fun _ h => h) (fun _ h => by cases h) (fun w hS => f38_ok ds dsA dsC id w (dsR.on hS (fun _ h => by cases h)) (fun i => (dsN i).on hS (fun _ h => by cases h)) hy_ hy_) ?_
 rintro _ _ ⟨rfl, rfl⟩
 have ha2 := R27.ofD_len (by assumption) id
 refine jr_ (Value.slice (R27.ofD ds id).PairsA ((R27.ofD ds id).Pairs.length) ((R27.ofD ds id).PairsC)) ?_
 refine JO_nil (JX_then (J_ret ?_))
 refine JX_rets [Value.slice (R27.ofD ds id).PairsA ((R27.ofD ds id).Pairs.length) ((R27.ofD ds id).PairsC)] (Value.slice (R27.ofD ds id).PairsA ((R27.ofD ds id).Pairs.length) ((R27.ofD ds id).PairsC)) Try.results16 (fun w h => ⟨rfl, trivial⟩) rfl [] (fun _ h => h.keep [false] rfl) ⟨?_, ?_⟩
 ·rfl
 ·rfl
end Go.Proofs.Ytmbinhhlfbgiaaa
