/- contracts C14c -/
import Derived.Test.YtodfebhimadaiaaC14b
namespace Go.Proofs.Ytodfebhimadaiaa
open Go.GV
set_option linter.unusedVariables false
set_option linter.unusedSimpArgs false
set_option maxRecDepth 20000 in
theorem f36_ok (bd : Nat) (w : World) : Calls Try.prog 36 #[Value.pointer (some ⟨bd, 0, none⟩)] w (Gives [] w fun v L => ∃ b : Nat, v = Value.slice (some ⟨b, 0, none⟩) 14 14 ∧ L = [Ent.blk b 66 [Value.pointer (some ⟨bd, 0, none⟩), Value.pointer (some ⟨bd, 1, none⟩), Value.pointer (some ⟨bd, 2, none⟩), Value.pointer (some ⟨bd, 3, none⟩), Value.pointer (some ⟨bd, 4, none⟩), Value.pointer (some ⟨bd, 5, none⟩), Value.pointer (some ⟨bd, 6, none⟩), Value.pointer (some ⟨bd, 7, none⟩), Value.pointer (some ⟨bd, 8, none⟩), Value.pointer (some ⟨bd, 9, none⟩), Value.pointer (some ⟨bd, 10, none⟩), Value.pointer (some ⟨bd, 11, none⟩), Value.pointer (some ⟨bd, 12, none⟩), Value.pointer (some ⟨bd, 13, none⟩)]]) := by
  refine calls_J [] 46 Try.func36 rfl Try.ntmps36 [(0, Value.pointer (some ⟨bd, 0, none⟩))] rfl rfl (Give.nil w) ?_
  refine J_seq (J_region ?_)
  refine jr_ (Value.slice none 0 0) ?_
  refine JO_nil (JX_then (J_seq ?_))
  refine J_draw [] [] [] 44 Ty.mixed rfl ?_
  refine jt_ 0 (Value.pointer (some ⟨bd, 0, none⟩)) rfl (fun _ _ => rfl) ?_
  refine jt_ 1 (Value.pointer (some ⟨bd, 0, none⟩)) rfl (fun _ _ => x_nilCheck rfl) ?_
  refine jt_ 2 (Value.pointer (some ⟨bd, 0, none⟩)) rfl (fun _ _ => x_fieldAddr Ty.fi34_0 rfl rfl) ?_
  refine jt_ 3 (Value.pointer (some ⟨bd, 0, none⟩)) rfl (fun _ _ => rfl) ?_
  refine jt_ 4 (Value.pointer (some ⟨bd, 0, none⟩)) rfl (fun _ _ => x_nilCheck rfl) ?_
  refine jt_ 5 (Value.pointer (some ⟨bd, 1, none⟩)) rfl (fun _ _ => x_fieldAddr Ty.fi34_1 rfl rfl) ?_
  refine jt_ 6 (Value.pointer (some ⟨bd, 0, none⟩)) rfl (fun _ _ => rfl) ?_
  refine jt_ 7 (Value.pointer (some ⟨bd, 0, none⟩)) rfl (fun _ _ => x_nilCheck rfl) ?_
  refine jt_ 8 (Value.pointer (some ⟨bd, 2, none⟩)) rfl (fun _ _ => x_fieldAddr Ty.fi34_2 rfl rfl) ?_
  refine jt_ 9 (Value.pointer (some ⟨bd, 0, none⟩)) rfl (fun _ _ => rfl) ?_
  refine jt_ 10 (Value.pointer (some ⟨bd, 0, none⟩)) rfl (fun _ _ => x_nilCheck rfl) ?_
  refine jt_ 11 (Value.pointer (some ⟨bd, 3, none⟩)) rfl (fun _ _ => x_fieldAddr Ty.fi34_3 rfl rfl) ?_
  refine jt_ 12 (Value.pointer (some ⟨bd, 0, none⟩)) rfl (fun _ _ => rfl) ?_
  refine jt_ 13 (Value.pointer (some ⟨bd, 0, none⟩)) rfl (fun _ _ => x_nilCheck rfl) ?_
  refine jt_ 14 (Value.pointer (some ⟨bd, 4, none⟩)) rfl (fun _ _ => x_fieldAddr Ty.fi34_4 rfl rfl) ?_
  refine jt_ 15 (Value.pointer (some ⟨bd, 0, none⟩)) rfl (fun _ _ => rfl) ?_
  refine jt_ 16 (Value.pointer (some ⟨bd, 0, none⟩)) rfl (fun _ _ => x_nilCheck rfl) ?_
  refine jt_ 17 (Value.pointer (some ⟨bd, 5, none⟩)) rfl (fun _ _ => x_fieldAddr Ty.fi34_5 rfl rfl) ?_
  refine jt_ 18 (Value.pointer (some ⟨bd, 0, none⟩)) rfl (fun _ _ => rfl) ?_
  refine jt_ 19 (Value.pointer (some ⟨bd, 0, none⟩)) rfl (fun _ _ => x_nilCheck rfl) ?_
  refine jt_ 20 (Value.pointer (some ⟨bd, 6, none⟩)) rfl (fun _ _ => x_fieldAddr Ty.fi34_6 rfl rfl) ?_
  refine jt_ 21 (Value.pointer (some ⟨bd, 0, none⟩)) rfl (fun _ _ => rfl) ?_
  refine jt_ 22 (Value.pointer (some ⟨bd, 0, none⟩)) rfl (fun _ _ => x_nilCheck rfl) ?_
  refine jt_ 23 (Value.pointer (some ⟨bd, 7, none⟩)) rfl (fun _ _ => x_fieldAddr Ty.fi34_7 rfl rfl) ?_
  refine jt_ 24 (Value.pointer (some ⟨bd, 0, none⟩)) rfl (fun _ _ => rfl) ?_
  refine jt_ 25 (Value.pointer (some ⟨bd, 0, none⟩)) rfl (fun _ _ => x_nilCheck rfl) ?_
  refine jt_ 26 (Value.pointer (some ⟨bd, 8, none⟩)) rfl (fun _ _ => x_fieldAddr Ty.fi34_8 rfl rfl) ?_
  refine jt_ 27 (Value.pointer (some ⟨bd, 0, none⟩)) rfl (fun _ _ => rfl) ?_
  refine jt_ 28 (Value.pointer (some ⟨bd, 0, none⟩)) rfl (fun _ _ => x_nilCheck rfl) ?_
  refine jt_ 29 (Value.pointer (some ⟨bd, 9, none⟩)) rfl (fun _ _ => x_fieldAddr Ty.fi34_9 rfl rfl) ?_
  refine jt_ 30 (Value.pointer (some ⟨bd, 0, none⟩)) rfl (fun _ _ => rfl) ?_
  refine jt_ 31 (Value.pointer (some ⟨bd, 0, none⟩)) rfl (fun _ _ => x_nilCheck rfl) ?_
  refine jt_ 32 (Value.pointer (some ⟨bd, 10, none⟩)) rfl (fun _ _ => x_fieldAddr Ty.fi34_10 rfl rfl) ?_
  refine jt_ 33 (Value.pointer (some ⟨bd, 0, none⟩)) rfl (fun _ _ => rfl) ?_
  refine jt_ 34 (Value.pointer (some ⟨bd, 0, none⟩)) rfl (fun _ _ => x_nilCheck rfl) ?_
  refine jt_ 35 (Value.pointer (some ⟨bd, 11, none⟩)) rfl (fun _ _ => x_fieldAddr Ty.fi34_11 rfl rfl) ?_
  refine jt_ 36 (Value.pointer (some ⟨bd, 0, none⟩)) rfl (fun _ _ => rfl) ?_
  refine jt_ 37 (Value.pointer (some ⟨bd, 0, none⟩)) rfl (fun _ _ => x_nilCheck rfl) ?_
  refine jt_ 38 (Value.pointer (some ⟨bd, 12, none⟩)) rfl (fun _ _ => x_fieldAddr Ty.fi34_12 rfl rfl) ?_
  refine jt_ 39 (Value.pointer (some ⟨bd, 0, none⟩)) rfl (fun _ _ => rfl) ?_
  refine jt_ 40 (Value.pointer (some ⟨bd, 0, none⟩)) rfl (fun _ _ => x_nilCheck rfl) ?_
  refine jt_ 41 (Value.pointer (some ⟨bd, 13, none⟩)) rfl (fun _ _ => x_fieldAddr Ty.fi34_13 rfl rfl) ?_
  refine JA_one 42 (by kernel_rfl) (fun _ h => ⟨h, fun _ => h⟩) ?_
  refine JI_op rfl rfl trivial (O_buildSlice (cs := [Value.pointer (some ⟨bd, 0, none⟩), Value.pointer (some ⟨bd, 1, none⟩), Value.pointer (some ⟨bd, 2, none⟩), Value.pointer (some ⟨bd, 3, none⟩), Value.pointer (some ⟨bd, 4, none⟩), Value.pointer (some ⟨bd, 5, none⟩), Value.pointer (some ⟨bd, 6, none⟩), Value.pointer (some ⟨bd, 7, none⟩), Value.pointer (some ⟨bd, 8, none⟩), Value.pointer (some ⟨bd, 9, none⟩), Value.pointer (some ⟨bd, 10, none⟩), Value.pointer (some ⟨bd, 11, none⟩), Value.pointer (some ⟨bd, 12, none⟩), Value.pointer (some ⟨bd, 13, none⟩)]) Try.underlying63 Ty.sz66 Ty.ze66 (by decide) (by decide) (by kernel_rfl) fun b2 => ?_)
  refine jt_ 43 (Value.slice (some ⟨b2, 0, none⟩) 14 14) rfl (fun _ _ => rfl) ?_
  refine JA_done (by kernel_rfl) (fun _ h => ⟨h.keep [false] rfl, fun _ => h.keep [false] rfl⟩) ?_
  refine JX_then (J_ret ?_)
  refine JX_rets [Value.slice (some ⟨b2, 0, none⟩) 14 14] (Value.slice (some ⟨b2, 0, none⟩) 14 14) Try.results36 (fun w h => ⟨rfl, trivial⟩) rfl [Ent.blk b2 66 [Value.pointer (some ⟨bd, 0, none⟩), Value.pointer (some ⟨bd, 1, none⟩), Value.pointer (some ⟨bd, 2, none⟩), Value.pointer (some ⟨bd, 3, none⟩), Value.pointer (some ⟨bd, 4, none⟩), Value.pointer (some ⟨bd, 5, none⟩), Value.pointer (some ⟨bd, 6, none⟩), Value.pointer (some ⟨bd, 7, none⟩), Value.pointer (some ⟨bd, 8, none⟩), Value.pointer (some ⟨bd, 9, none⟩), Value.pointer (some ⟨bd, 10, none⟩), Value.pointer (some ⟨bd, 11, none⟩), Value.pointer (some ⟨bd, 12, none⟩), Value.pointer (some ⟨bd, 13, none⟩)]] (fun _ h => h) ⟨b2, ?_, ?_⟩
  · rfl
  · rfl
set_option maxRecDepth 20000 in
theorem f39_ok (n : Int) (w : World) : Calls Try.prog 39 #[vI n] w (Gives [] w fun v L => v = vB (R14.okN n) ∧ L = []) := by
  refine calls_J [] 9 Try.func39 rfl Try.ntmps39 [(0, vI n)] rfl rfl (Give.nil w) ?_
  refine J_seq (J_region ?_)
  refine jr_ (vB false) ?_
  refine JO_nil (JX_then (J_seq (J_region ?_)))
  refine jr_ (vI n) ?_
  refine JO_read (vB (decide ((0 : Int) ≤ n))) rfl trivial (fun _ _ => x_geq_i rfl rfl) ?_
  refine jr_ (vB (decide ((0 : Int) ≤ n))) ?_
  refine JO_cut (X := Bool) 3 (fun z => z = ((decide ((0 : Int) ≤ n)) && (decide (n ≤ 1099511627776)))) (fun z => [(2, vB false), (8, vB z)]) (fun _ => []) ?_ ?_
  · rcases Bool.eq_false_or_eq_true (decide ((0 : Int) ≤ n)) with g2 | g2
    · have g2r := g2
      have g2r := of_decide_eq_true g2r
      refine JO_read (vI n) rfl ⟨_, rfl, g2⟩ (fun _ _ => rfl) ?_
      refine JO_read (vB (decide (n ≤ 1099511627776))) rfl ⟨_, rfl, g2⟩ (fun _ _ => x_leq_i rfl rfl) ?_
      refine JO_read (vB (decide (n ≤ 1099511627776))) rfl trivial (fun _ _ => x_pick_t rfl g2 rfl) ?_
      refine JO_nil (JX_cut (decide (n ≤ 1099511627776)) (by rw [g2]; simp) ⟨rfl, rfl, trivial⟩ (fun _ h => h))
    · have g2r := g2
      have g2r := of_decide_eq_false g2r
      refine JO_shun rfl ⟨_, rfl, g2⟩ ?_
      refine JO_shun rfl ⟨_, rfl, g2⟩ ?_
      refine JO_read (vB false) rfl trivial (fun _ _ => x_pick_f rfl g2 rfl) ?_
      refine JO_nil (JX_cut (false) (by rw [g2]; simp) ⟨rfl, rfl, trivial⟩ (fun _ h => h))
  rintro z1 rfl
  refine jr_ (vB ((decide ((0 : Int) ≤ n)) && (decide (n ≤ 1099511627776)))) ?_
  refine JO_nil (JX_then (J_ret ?_))
  refine JX_rets [vB ((decide ((0 : Int) ≤ n)) && (decide (n ≤ 1099511627776)))] (vB ((decide ((0 : Int) ≤ n)) && (decide (n ≤ 1099511627776)))) Try.results39 (fun w h => ⟨rfl, trivial⟩) rfl [] (fun _ h => h) ⟨?_, ?_⟩
  · have e_x0 : ((decide ((0 : Int) ≤ n)) && (decide (n ≤ 1099511627776)) : Bool) = (R14.okN n) := by rfl
    exact congrArg (fun (x0 : Bool) => vB x0) e_x0
  · rfl
set_option maxRecDepth 20000 in
theorem f38_ok (p : Addr) (px : Int) (w : World) (pR : RO [] w (some p) [vI px]) : Calls Try.prog 38 #[vP p] w (Gives [] w fun v L => v = vB (!R14.okN px) ∧ L = []) := by
  refine calls_J [] 8 Try.func38 rfl Try.ntmps38 [(0, vP p)] rfl rfl (Give.nil w) ?_
  refine J_seq (J_region ?_)
  refine jr_ (vB false) ?_
  refine JO_nil (JX_then (J_seq (J_region ?_)))
  refine jr_ (vP p) ?_
  refine JO_read (vP p) rfl trivial (fun _ _ => x_nilCheck_p rfl) ?_
  refine JO_read (vI px) rfl trivial (x_load_ptr pR rfl Ty.sc3) ?_
  refine JO_call [] [] [] rfl trivial (fun _ => x_call Ty.ca39 rfl) (fun _ h => h) (fun _ h => by cases h) (fun w hS => f39_ok px w) ?_
  rintro _ _ ⟨rfl, rfl⟩
  refine JO_read (vB (!(R14.okN px))) rfl trivial (fun _ _ => x_not rfl) ?_
  refine jr_ (vB (!(R14.okN px))) ?_
  refine JO_nil (JX_then (J_ret ?_))
  refine JX_rets [vB (!(R14.okN px))] (vB (!(R14.okN px))) Try.results38 (fun w h => ⟨rfl, trivial⟩) rfl [] (fun _ h => h) ⟨?_, ?_⟩
  · have e_x0 : (!(R14.okN px) : Bool) = (!R14.okN px) := by first | rfl | omega | (simp_all; done) | (simp_all; omega)
    exact congrArg (fun (x0 : Bool) => vB x0) e_x0
  · rfl
set_option maxRecDepth 20000 in
theorem f41_ok (p : Pair) (w : World) : Calls Try.prog 41 #[Value.agg #[vS p.key, vS p.record]] w (Gives [] w fun v L => v = vB (R14.badP p) ∧ L = []) := by
  refine calls_J [] 13 Try.func41 rfl Try.ntmps41 [(0, Value.agg #[vS p.key, vS p.record])] rfl rfl (Give.nil w) ?_
  refine J_seq (J_region ?_)
  refine JO_op rfl trivial (O_box rfl rfl fun b1 => ?_)
  refine jr_ (vB false) ?_
  refine JO_nil (JX_then (J_seq (J_region ?_)))
  refine JO_read (Value.pointer (some ⟨b1, 0, none⟩)) rfl trivial (fun _ _ => x_fieldAddr Ty.fi54_0 rfl rfl) ?_
  refine JO_read (vS p.key) rfl trivial (x_load 0 rfl rfl Ty.sc9 rfl) ?_
  refine JO_read (vI ((p.key.length : Nat) : Int)) rfl trivial (fun _ _ => x_len_s rfl Try.underlying9) ?_
  refine JO_read (vB (decide ((32 : Int) < ((p.key.length : Nat) : Int)))) rfl trivial (fun _ _ => x_gtr_i rfl rfl) ?_
  refine jr_ (vB (decide ((32 : Int) < ((p.key.length : Nat) : Int)))) ?_
  refine JO_cut (X := Bool) 5 (fun z => z = ((decide ((32 : Int) < ((p.key.length : Nat) : Int))) || (decide ((1000 : Int) < ((p.record.length : Nat) : Int))))) (fun z => [(2, vB false), (12, vB z)]) (fun _ => [Ent.blk b1 54 [vS p.key, vS p.record]]) ?_ ?_
  · rcases Bool.eq_false_or_eq_true (decide ((32 : Int) < ((p.key.length : Nat) : Int))) with g3 | g3
    · have g3r := g3
      have g3r := of_decide_eq_true g3r
      refine JO_shun rfl ⟨_, rfl, g3⟩ ?_
      refine JO_shun rfl ⟨_, rfl, g3⟩ ?_
      refine JO_shun rfl ⟨_, rfl, g3⟩ ?_
      refine JO_shun rfl ⟨_, rfl, g3⟩ ?_
      refine JO_read (vB true) rfl trivial (fun _ _ => x_pick_t rfl g3 rfl) ?_
      refine JO_nil (JX_cut (true) (by rw [g3]; simp) ⟨rfl, rfl, trivial⟩ (fun _ h => h))
    · have g3r := g3
      have g3r := of_decide_eq_false g3r
      refine JO_read (Value.pointer (some ⟨b1, 1, none⟩)) rfl ⟨_, rfl, g3⟩ (fun _ _ => x_fieldAddr Ty.fi54_1 rfl rfl) ?_
      refine JO_read (vS p.record) rfl ⟨_, rfl, g3⟩ (x_load 0 rfl rfl Ty.sc9 rfl) ?_
      refine JO_read (vI ((p.record.length : Nat) : Int)) rfl ⟨_, rfl, g3⟩ (fun _ _ => x_len_s rfl Try.underlying9) ?_
      refine JO_read (vB (decide ((1000 : Int) < ((p.record.length : Nat) : Int)))) rfl ⟨_, rfl, g3⟩ (fun _ _ => x_gtr_i rfl rfl) ?_
      refine JO_read (vB (decide ((1000 : Int) < ((p.record.length : Nat) : Int)))) rfl trivial (fun _ _ => x_pick_f rfl g3 rfl) ?_
      refine JO_nil (JX_cut (decide ((1000 : Int) < ((p.record.length : Nat) : Int))) (by rw [g3]; simp) ⟨rfl, rfl, trivial⟩ (fun _ h => h))
  rintro z2 rfl
  refine jr_ (vB ((decide ((32 : Int) < ((p.key.length : Nat) : Int))) || (decide ((1000 : Int) < ((p.record.length : Nat) : Int))))) ?_
  refine JO_nil (JX_then (J_ret ?_))
  refine JX_rets [vB ((decide ((32 : Int) < ((p.key.length : Nat) : Int))) || (decide ((1000 : Int) < ((p.record.length : Nat) : Int))))] (vB ((decide ((32 : Int) < ((p.key.length : Nat) : Int))) || (decide ((1000 : Int) < ((p.record.length : Nat) : Int))))) Try.results41 (fun w h => ⟨rfl, trivial⟩) rfl [] (fun _ h => h.keep [false] rfl) ⟨?_, ?_⟩
  · have e_x0 : ((decide ((32 : Int) < ((p.key.length : Nat) : Int))) || (decide ((1000 : Int) < ((p.record.length : Nat) : Int))) : Bool) = (R14.badP p) := by rfl
    exact congrArg (fun (x0 : Bool) => vB x0) e_x0
  · rfl
set_option maxRecDepth 20000 in
theorem f62_ok (ps : List Addr) (psA : Option Addr) (psC : Nat) (psx : List Int) (w : World) (psR : RO [] w psA (ps.map vP)) (psD : derefs [] w ps psx) (q0 : ps.length ≤ 1000) : Calls Try.prog 62 #[Value.slice psA ps.length psC, Value.func (.func 38) #[] #[]] w (Gives [] w fun v L => v = vI (R14.idx (fun x => !R14.okN x) psx) ∧ L = []) := by
  have hl := derefs_len psD
  refine calls_J [] 19 Try.func62 rfl Try.ntmps62 [(0, Value.slice psA ps.length psC), (1, Value.func (.func 38) #[] #[])] rfl rfl (Give.nil w) ?_
  refine J_seq (J_region ?_)
  refine jr_ (vI 0) ?_
  refine JO_nil (JX_then (J_seq (J_seq (J_region ?_))))
  refine jr_ (Value.slice psA ps.length psC) ?_
  refine JO_read (vI ((ps.length : Nat) : Int)) rfl trivial (fun _ _ => x_len_sl Try.underlying63 rfl) ?_
  refine jr_ (vI 0) ?_
  refine JO_nil (JX_then (J_block ?_))
  refine J_loop (X := Nat) (fun (k : Nat) => (k ≤ psx.length) ∧ (∀ i, i < k → (fun x => !R14.okN x) (psx.getD i 0) = false)) (fun (k : Nat) => [(0, Value.slice psA ps.length psC), (1, Value.func (.func 38) #[] #[]), (7, vI ((ps.length : Nat) : Int)), (8, vI ((k : Nat) : Int))]) (fun (k : Nat) => []) (fun (k : Nat) => psx.length - k) (0 : Nat) ?_ ⟨rfl, rfl, rfl, rfl, trivial⟩ (fun _ h => h) ?_
  · show (0 ≤ psx.length) ∧ (∀ i, i < 0 → (fun x => !R14.okN x) (psx.getD i 0) = false)
    refine ⟨?_, ?_⟩
    · first | rfl | omega | (simp_all; done) | (simp_all; omega)
    · intro i hi; omega
  intro k hI1
  obtain ⟨i1_0, i1_1⟩ : (k ≤ psx.length) ∧ (∀ i, i < k → (fun x => !R14.okN x) (psx.getD i 0) = false) := hI1
  refine J_weaken (E' := [(0, Value.slice psA ps.length psC), (1, Value.func (.func 38) #[] #[]), (7, vI ((ps.length : Nat) : Int)), (8, vI ((k : Nat) : Int))]) (L' := []) ⟨rfl, rfl, rfl, rfl, trivial⟩ (fun _ h => h) ?_
  refine J_seq (J_region ?_)
  refine JO_read (vB (decide (((k : Nat) : Int) < ((ps.length : Nat) : Int)))) rfl trivial (fun _ _ => x_lss_i rfl rfl) ?_
  refine JO_nil (JX_then (J_seq ?_))
  refine J_cond (decide (((k : Nat) : Int) < ((ps.length : Nat) : Int))) rfl rfl (fun h1 => ?_) (fun h1 => ?_)
  · have h1 := of_decide_eq_true h1
    refine J_skip (JX_then (J_seq (J_block (J_seq (J_region ?_)))))
    refine jr_ (vI ((k : Nat) : Int)) ?_
    refine jr_ (vI ((k : Nat) : Int)) ?_
    refine JO_nil (JX_then (J_seq (J_region ?_)))
    refine jr_ (Value.func (.func 38) #[] #[]) ?_
    refine jr_ (Value.slice psA ps.length psC) ?_
    refine jr_ (vI ((k : Nat) : Int)) ?_
    refine JO_read (Value.pointer (some (adr psA k))) rfl trivial (x_indexAddr_at (k := k) (off := k) (cells_ro psR) Try.underlying63 Ty.sz66 rfl rfl lt_ (by rw [List.length_map]; first | omega | (simp; omega) | (simp_all; omega) | (simp_all; done)) (Nat.mul_one _)) ?_
    refine JO_read (vP (ps.getD k default)) rfl trivial (x_load_at (cells_ro psR) rfl Ty.sc66 (map_at vP ps default lt_)) ?_
    refine JO_call [] [] [] rfl trivial (fun _ => x_callv (first := []) (caps := []) rfl Ty.ca38 rfl) (fun _ h => h) (fun _ h => by cases h) (fun w hS => f38_ok (ps.getD k default) (psx.getD k 0) w ((derefs_at psD (k := k) lt_).on hS (fun _ h => by cases h))) ?_
    rintro _ _ ⟨rfl, rfl⟩
    refine JO_nil (JX_then ?_)
    refine J_cond (!R14.okN (psx.getD k 0)) rfl rfl (fun h2 => ?_) (fun h2 => ?_)
    · refine J_seq (J_region ?_)
      refine jr_ (vI ((k : Nat) : Int)) ?_
      refine jr_ (vI ((k : Nat) : Int)) ?_
      refine JO_nil (JX_then (J_ret (JX_block_ret (JX_then_ret (JX_round_ret ?_)))))
      refine JX_block_ret (JX_then_ret ?_)
      refine JX_rets [vI ((k : Nat) : Int)] (vI ((k : Nat) : Int)) Try.results62 (fun w h => ⟨rfl, trivial⟩) rfl [] (fun _ h => h) ⟨?_, ?_⟩
      · have e_x0 : (((k : Nat) : Int) : Int) = (R14.idx (fun x => !R14.okN x) psx) := by first | exact R14.idx_hit (d := 0) (by omega) i1_1 (by assumption) | exact R14.idx_miss (d := 0) (fun i hi => i1_1 i (by omega))
        exact congrArg (fun (x0 : Int) => vI x0) e_x0
      · rfl
    · refine J_skip (JX_block (JX_then (J_region ?_)))
      refine JO_read (vI ((k + 1 : Nat) : Int)) rfl trivial (fun _ _ => x_add_n (a := k) (b := 1) rfl rfl (by omega)) ?_
      refine jr_ (vI ((k + 1 : Nat) : Int)) ?_
      refine JO_nil ?_
      refine JX_round (k + 1 : Nat) ?_ ?_ ⟨rfl, rfl, rfl, rfl, trivial⟩ (fun _ h => h)
      · show ((k + 1) ≤ psx.length) ∧ (∀ i, i < (k + 1) → (fun x => !R14.okN x) (psx.getD i 0) = false)
        refine ⟨?_, ?_⟩
        · first | rfl | omega | (simp_all; done) | (simp_all; omega)
        · intro i hi; by_cases hik : i = k
          · subst hik; simp_all
          · exact i1_1 i (by omega)
      · show psx.length - (k + 1) < psx.length - k
        first | omega | (simp; omega) | (simp_all; omega)
  · have h1 := of_decide_eq_false h1
    refine J_exit (JX_then_exit (JX_round_exit (JX_block_hit (JX_then (J_seq ?_)))))
    refine J_region ?_
    refine jr_ (vI (-1)) ?_
    refine JO_nil (JX_then (J_ret ?_))
    refine JX_rets [vI (-1)] (vI (-1)) Try.results62 (fun w h => ⟨rfl, trivial⟩) rfl [] (fun _ h => h) ⟨?_, ?_⟩
    · have e_x0 : ((-1) : Int) = (R14.idx (fun x => !R14.okN x) psx) := by first | exact R14.idx_hit (d := 0) (by omega) i1_1 (by assumption) | exact R14.idx_miss (d := 0) (fun i hi => i1_1 i (by omega))
      exact congrArg (fun (x0 : Int) => vI x0) e_x0
    · rfl
set_option maxRecDepth 20000 in
theorem f37_ok (ps : List Addr) (psA : Option Addr) (psC : Nat) (psx : List Int) (w : World) (psR : RO [] w psA (ps.map vP)) (psD : derefs [] w ps psx) (q0 : ps.length ≤ 1000) : Calls Try.prog 37 #[Value.slice psA ps.length psC, Value.func (.func 38) #[] #[]] w (Gives [] w fun v L => v = vB (psx.any (fun x => !R14.okN x)) ∧ L = []) := by
  refine calls_J [] 9 Try.func37 rfl Try.ntmps37 [(0, Value.slice psA ps.length psC), (1, Value.func (.func 38) #[] #[])] rfl rfl (Give.nil w) ?_
  refine J_seq (J_region ?_)
  refine jr_ (vB false) ?_
  refine JO_nil (JX_then (J_seq (J_region ?_)))
  refine jr_ (Value.slice psA ps.length psC) ?_
  refine jr_ (Value.func (.func 38) #[] #[]) ?_
  refine JO_call [] [] [] rfl trivial (fun _ => x_call Ty.ca62 rfl) (fun _ h => h) (fun _ h => by cases h) (fun w hS => f62_ok ps psA psC psx w (psR.on hS (fun _ h => by cases h)) (derefs.on hS (fun _ h => by cases h) psD) hy_) ?_
  rintro _ _ ⟨rfl, rfl⟩
  refine JO_read (vB (decide ((0 : Int) ≤ R14.idx (fun x => !R14.okN x) psx))) rfl trivial (fun _ _ => x_geq_i rfl rfl) ?_
  refine jr_ (vB (decide ((0 : Int) ≤ R14.idx (fun x => !R14.okN x) psx))) ?_
  refine JO_nil (JX_then (J_ret ?_))
  refine JX_rets [vB (decide ((0 : Int) ≤ R14.idx (fun x => !R14.okN x) psx))] (vB (decide ((0 : Int) ≤ R14.idx (fun x => !R14.okN x) psx))) Try.results37 (fun w h => ⟨rfl, trivial⟩) rfl [] (fun _ h => h) ⟨?_, ?_⟩
  · have e_x0 : (decide ((0 : Int) ≤ R14.idx (fun x => !R14.okN x) psx) : Bool) = (psx.any (fun x => !R14.okN x)) := R14.idx_any
    exact congrArg (fun (x0 : Bool) => vB x0) e_x0
  · rfl
set_option maxRecDepth 20000 in
theorem f63_ok (ps : List Pair) (psA : Option Addr) (psC : Nat) (w : World) (psR : RO [] w psA (ps.flatMap Pair.enc)) (q0 : ps.length ≤ 9223372036854775807) : Calls Try.prog 63 #[Value.slice psA ps.length psC, Value.func (.func 41) #[] #[]] w (Gives [] w fun v L => v = vI (R14.idx R14.badP ps) ∧ L = []) := by
  refine calls_J [] 19 Try.func63 rfl Try.ntmps63 [(0, Value.slice psA ps.length psC), (1, Value.func (.func 41) #[] #[])] rfl rfl (Give.nil w) ?_
  refine J_seq (J_region ?_)
  refine jr_ (vI 0) ?_
  refine JO_nil (JX_then (J_seq (J_seq (J_region ?_))))
  refine jr_ (Value.slice psA ps.length psC) ?_
  refine JO_read (vI ((ps.length : Nat) : Int)) rfl trivial (fun _ _ => x_len_sl Try.underlying35 rfl) ?_
  refine jr_ (vI 0) ?_
  refine JO_nil (JX_then (J_block ?_))
  refine J_loop (X := Nat) (fun (k : Nat) => (k ≤ ps.length) ∧ (∀ i, i < k → R14.badP (ps.getD i default) = false)) (fun (k : Nat) => [(0, Value.slice psA ps.length psC), (1, Value.func (.func 41) #[] #[]), (7, vI ((ps.length : Nat) : Int)), (8, vI ((k : Nat) : Int))]) (fun (k : Nat) => []) (fun (k : Nat) => ps.length - k) (0 : Nat) ?_ ⟨rfl, rfl, rfl, rfl, trivial⟩ (fun _ h => h) ?_
  · show (0 ≤ ps.length) ∧ (∀ i, i < 0 → R14.badP (ps.getD i default) = false)
    refine ⟨?_, ?_⟩
    · first | rfl | omega | (simp_all; done) | (simp_all; omega)
    · intro i hi; omega
  intro k hI1
  obtain ⟨i1_0, i1_1⟩ : (k ≤ ps.length) ∧ (∀ i, i < k → R14.badP (ps.getD i default) = false) := hI1
  refine J_weaken (E' := [(0, Value.slice psA ps.length psC), (1, Value.func (.func 41) #[] #[]), (7, vI ((ps.length : Nat) : Int)), (8, vI ((k : Nat) : Int))]) (L' := []) ⟨rfl, rfl, rfl, rfl, trivial⟩ (fun _ h => h) ?_
  refine J_seq (J_region ?_)
  refine JO_read (vB (decide (((k : Nat) : Int) < ((ps.length : Nat) : Int)))) rfl trivial (fun _ _ => x_lss_i rfl rfl) ?_
  refine JO_nil (JX_then (J_seq ?_))
  refine J_cond (decide (((k : Nat) : Int) < ((ps.length : Nat) : Int))) rfl rfl (fun h1 => ?_) (fun h1 => ?_)
  · have h1 := of_decide_eq_true h1
    refine J_skip (JX_then (J_seq (J_block (J_seq (J_region ?_)))))
    refine jr_ (vI ((k : Nat) : Int)) ?_
    refine jr_ (vI ((k : Nat) : Int)) ?_
    refine JO_nil (JX_then (J_seq (J_region ?_)))
    refine jr_ (Value.func (.func 41) #[] #[]) ?_
    refine jr_ (Value.slice psA ps.length psC) ?_
    refine jr_ (vI ((k : Nat) : Int)) ?_
    refine JO_read (Value.pointer (some (adr psA (k * 2)))) rfl trivial (x_indexAddr_at (k := k) (off := k * 2) (cells_ro psR) Try.underlying35 Ty.sz54 rfl rfl lt_ (by rw [flat_length Pair.enc 2 Pair.enc_len]; first | omega | (simp; omega) | (simp_all; omega) | (simp_all; done)) rfl) ?_
    refine JO_read (Value.agg #[vS ((ps.getD k default).key), vS ((ps.getD k default).record)]) rfl trivial (x_loadN_at [vS ((ps.getD k default).key), vS ((ps.getD k default).record)] (cells_ro psR) rfl Ty.ag54 Ty.sz54 (flat_drop Pair.enc 2 Pair.enc_len ps default k lt_)) ?_
    refine JO_call [] [] [] rfl trivial (fun _ => x_callv (first := []) (caps := []) rfl Ty.ca41 rfl) (fun _ h => h) (fun _ h => by cases h) (fun w hS => f41_ok (ps.getD k default) w) ?_
    rintro _ _ ⟨rfl, rfl⟩
    refine JO_nil (JX_then ?_)
    refine J_cond (R14.badP (ps.getD k default)) rfl rfl (fun h2 => ?_) (fun h2 => ?_)
    · refine J_seq (J_region ?_)
      refine jr_ (vI ((k : Nat) : Int)) ?_
      refine jr_ (vI ((k : Nat) : Int)) ?_
      refine JO_nil (JX_then (J_ret (JX_block_ret (JX_then_ret (JX_round_ret ?_)))))
      refine JX_block_ret (JX_then_ret ?_)
      refine JX_rets [vI ((k : Nat) : Int)] (vI ((k : Nat) : Int)) Try.results63 (fun w h => ⟨rfl, trivial⟩) rfl [] (fun _ h => h) ⟨?_, ?_⟩
      · have e_x0 : (((k : Nat) : Int) : Int) = (R14.idx R14.badP ps) := by first | exact R14.idx_hit (d := default) (by omega) i1_1 (by assumption) | exact R14.idx_miss (d := default) (fun i hi => i1_1 i (by omega))
        exact congrArg (fun (x0 : Int) => vI x0) e_x0
      · rfl
    · refine J_skip (JX_block (JX_then (J_region ?_)))
      refine JO_read (vI ((k + 1 : Nat) : Int)) rfl trivial (fun _ _ => x_add_n (a := k) (b := 1) rfl rfl (by omega)) ?_
      refine jr_ (vI ((k + 1 : Nat) : Int)) ?_
      refine JO_nil ?_
      refine JX_round (k + 1 : Nat) ?_ ?_ ⟨rfl, rfl, rfl, rfl, trivial⟩ (fun _ h => h)
      · show ((k + 1) ≤ ps.length) ∧ (∀ i, i < (k + 1) → R14.badP (ps.getD i default) = false)
        refine ⟨?_, ?_⟩
        · first | rfl | omega | (simp_all; done) | (simp_all; omega)
        · intro i hi; by_cases hik : i = k
          · subst hik; simp_all
          · exact i1_1 i (by omega)
      · show ps.length - (k + 1) < ps.length - k
        first | omega | (simp; omega) | (simp_all; omega)
  · have h1 := of_decide_eq_false h1
    refine J_exit (JX_then_exit (JX_round_exit (JX_block_hit (JX_then (J_seq ?_)))))
    refine J_region ?_
    refine jr_ (vI (-1)) ?_
    refine JO_nil (JX_then (J_ret ?_))
    refine JX_rets [vI (-1)] (vI (-1)) Try.results63 (fun w h => ⟨rfl, trivial⟩) rfl [] (fun _ h => h) ⟨?_, ?_⟩
    · have e_x0 : ((-1) : Int) = (R14.idx R14.badP ps) := by first | exact R14.idx_hit (d := default) (by omega) i1_1 (by assumption) | exact R14.idx_miss (d := default) (fun i hi => i1_1 i (by omega))
      exact congrArg (fun (x0 : Int) => vI x0) e_x0
    · rfl
set_option maxRecDepth 20000 in
theorem f40_ok (ps : List Pair) (psA : Option Addr) (psC : Nat) (w : World) (psR : RO [] w psA (ps.flatMap Pair.enc)) (q0 : ps.length ≤ 9223372036854775807) : Calls Try.prog 40 #[Value.slice psA ps.length psC, Value.func (.func 41) #[] #[]] w (Gives [] w fun v L => v = vB (ps.any R14.badP) ∧ L = []) := by
  refine calls_J [] 9 Try.func40 rfl Try.ntmps40 [(0, Value.slice psA ps.length psC), (1, Value.func (.func 41) #[] #[])] rfl rfl (Give.nil w) ?_
  refine J_seq (J_region ?_)
  refine jr_ (vB false) ?_
  refine JO_nil (JX_then (J_seq (J_region ?_)))
  refine jr_ (Value.slice psA ps.length psC) ?_
  refine jr_ (Value.func (.func 41) #[] #[]) ?_
  refine JO_call [] [] [] rfl trivial (fun _ => x_call Ty.ca63 rfl) (fun _ h => h) (fun _ h => by cases h) (fun w hS => f63_ok ps psA psC w (psR.on hS (fun _ h => by cases h)) hy_) ?_
  rintro _ _ ⟨rfl, rfl⟩
  refine JO_read (vB (decide ((0 : Int) ≤ R14.idx R14.badP ps))) rfl trivial (fun _ _ => x_geq_i rfl rfl) ?_
  refine jr_ (vB (decide ((0 : Int) ≤ R14.idx R14.badP ps))) ?_
  refine JO_nil (JX_then (J_ret ?_))
  refine JX_rets [vB (decide ((0 : Int) ≤ R14.idx R14.badP ps))] (vB (decide ((0 : Int) ≤ R14.idx R14.badP ps))) Try.results40 (fun w h => ⟨rfl, trivial⟩) rfl [] (fun _ h => h) ⟨?_, ?_⟩
  · have e_x0 : (decide ((0 : Int) ≤ R14.idx R14.badP ps) : Bool) = (ps.any R14.badP) := R14.idx_any
    exact congrArg (fun (x0 : Bool) => vB x0) e_x0
  · rfl
set_option maxRecDepth 20000 in
theorem f20_ok (d : DataSet) (n : Int) (ps : List Pair) (psA : Option Addr) (psC : Nat) (w : World) (psR : RO [] w psA (ps.flatMap Pair.enc)) (q0 : ps.length ≤ 9223372036854775807) : Calls Try.prog 20 #[Value.agg ((DataSet.enc d ++ [vI n, Value.slice psA ps.length psC])).toArray] w (Gives [] w fun v L => v = vB (R14.valid d n ps) ∧ L = []) := by
  refine calls_J [] 36 Try.func20 rfl Try.ntmps20 [(0, Value.agg ((DataSet.enc d ++ [vI n, Value.slice psA ps.length psC])).toArray)] rfl rfl (Give.nil w) ?_
  refine J_seq (J_region ?_)
  refine JO_op rfl trivial (O_box rfl rfl fun b1 => ?_)
  refine jr_ (vB false) ?_
  refine JO_nil (JX_then (J_seq (J_region ?_)))
  refine JO_read (Value.pointer (some ⟨b1, 0, none⟩)) rfl trivial (fun _ _ => x_fieldAddr Ty.fi37_0 rfl rfl) ?_
  refine JO_read (Value.agg ((DataSet.enc d)).toArray) rfl trivial (x_loadN 0 (DataSet.enc d) rfl rfl Ty.ag34 Ty.sz34 rfl) ?_
  refine JO_op rfl trivial (O_alloc Ty.ze34 rfl fun b2 => ?_)
  refine JO_op rfl trivial (O_storeS (vs := (DataSet.enc d)) 0 (DataSet.enc d) [Ent.blk b2 34 (DataSet.enc d), Ent.blk b1 37 (DataSet.enc d ++ [vI n, Value.slice psA ps.length psC])] rfl rfl rfl Ty.sz34 rfl (Nat.le_of_ble_eq_true rfl) rfl (st_all rfl) rfl ?_)
  refine JO_nil (JX_then (J_seq (J_region ?_)))
  refine JO_call [] [] [Ent.blk b2 34 (DataSet.enc d), Ent.blk b1 37 (DataSet.enc d ++ [vI n, Value.slice psA ps.length psC])] rfl trivial (fun _ => x_call Ty.ca36 rfl) (fun _ h => h) (fun _ h => by cases h) (fun w hS => f36_ok b2 w) ?_
  rintro _ _ ⟨b3, rfl, rfl⟩
  refine JO_read (Value.pointer (some ⟨b2, 15, none⟩)) rfl trivial (fun _ _ => x_fieldAddr Ty.fi34_15 rfl rfl) ?_
  refine JO_read (Value.pointer (some ⟨b2, 18, none⟩)) rfl trivial (fun _ _ => x_fieldAddr Ty.fi34_18 rfl rfl) ?_
  refine JO_read (Value.pointer (some ⟨b2, 19, none⟩)) rfl trivial (fun _ _ => x_fieldAddr Ty.fi34_19 rfl rfl) ?_
  refine JO_read (Value.pointer (some ⟨b1, 21, none⟩)) rfl trivial (fun _ _ => x_fieldAddr Ty.fi37_1 rfl rfl) ?_
  refine JO_op rfl trivial (O_buildSlice (cs := [Value.pointer (some ⟨b2, 15, none⟩), Value.pointer (some ⟨b2, 18, none⟩), Value.pointer (some ⟨b2, 19, none⟩), Value.pointer (some ⟨b1, 21, none⟩)]) Try.underlying63 Ty.sz66 Ty.ze66 (by decide) (by decide) (by kernel_rfl) fun b4 => ?_)
  refine JO_weaken (E' := [(0, Value.agg ((DataSet.enc d ++ [vI n, Value.slice psA ps.length psC])).toArray), (1, Value.pointer (some ⟨b1, 0, none⟩)), (2, vB false), (5, Value.pointer (some ⟨b1, 0, none⟩)), (6, Value.agg ((DataSet.enc d)).toArray), (3, Value.pointer (some ⟨b2, 0, none⟩)), (7, Value.slice (some ⟨b3, 0, none⟩) (([(⟨b2, 0, none⟩ : Addr), (⟨b2, 1, none⟩ : Addr), (⟨b2, 2, none⟩ : Addr), (⟨b2, 3, none⟩ : Addr), (⟨b2, 4, none⟩ : Addr), (⟨b2, 5, none⟩ : Addr), (⟨b2, 6, none⟩ : Addr), (⟨b2, 7, none⟩ : Addr), (⟨b2, 8, none⟩ : Addr), (⟨b2, 9, none⟩ : Addr), (⟨b2, 10, none⟩ : Addr), (⟨b2, 11, none⟩ : Addr), (⟨b2, 12, none⟩ : Addr), (⟨b2, 13, none⟩ : Addr)]).length) 14), (8, Value.pointer (some ⟨b2, 15, none⟩)), (9, Value.pointer (some ⟨b2, 18, none⟩)), (10, Value.pointer (some ⟨b2, 19, none⟩)), (11, Value.pointer (some ⟨b1, 21, none⟩)), (12, Value.slice (some ⟨b4, 0, none⟩) 4 4)]) (L' := [Ent.row (.slice (some ⟨b3, 0, none⟩) [(⟨b2, 0, none⟩ : Addr), (⟨b2, 1, none⟩ : Addr), (⟨b2, 2, none⟩ : Addr), (⟨b2, 3, none⟩ : Addr), (⟨b2, 4, none⟩ : Addr), (⟨b2, 5, none⟩ : Addr), (⟨b2, 6, none⟩ : Addr), (⟨b2, 7, none⟩ : Addr), (⟨b2, 8, none⟩ : Addr), (⟨b2, 9, none⟩ : Addr), (⟨b2, 10, none⟩ : Addr), (⟨b2, 11, none⟩ : Addr), (⟨b2, 12, none⟩ : Addr), (⟨b2, 13, none⟩ : Addr)].length 14) 66 1 [(⟨b2, 0, none⟩ : Addr), (⟨b2, 1, none⟩ : Addr), (⟨b2, 2, none⟩ : Addr), (⟨b2, 3, none⟩ : Addr), (⟨b2, 4, none⟩ : Addr), (⟨b2, 5, none⟩ : Addr), (⟨b2, 6, none⟩ : Addr), (⟨b2, 7, none⟩ : Addr), (⟨b2, 8, none⟩ : Addr), (⟨b2, 9, none⟩ : Addr), (⟨b2, 10, none⟩ : Addr), (⟨b2, 11, none⟩ : Addr), (⟨b2, 12, none⟩ : Addr), (⟨b2, 13, none⟩ : Addr)].length ([(⟨b2, 0, none⟩ : Addr), (⟨b2, 1, none⟩ : Addr), (⟨b2, 2, none⟩ : Addr), (⟨b2, 3, none⟩ : Addr), (⟨b2, 4, none⟩ : Addr), (⟨b2, 5, none⟩ : Addr), (⟨b2, 6, none⟩ : Addr), (⟨b2, 7, none⟩ : Addr), (⟨b2, 8, none⟩ : Addr), (⟨b2, 9, none⟩ : Addr), (⟨b2, 10, none⟩ : Addr), (⟨b2, 11, none⟩ : Addr), (⟨b2, 12, none⟩ : Addr), (⟨b2, 13, none⟩ : Addr)].map vP), Ent.blk b4 66 [Value.pointer (some ⟨b2, 15, none⟩), Value.pointer (some ⟨b2, 18, none⟩), Value.pointer (some ⟨b2, 19, none⟩), Value.pointer (some ⟨b1, 21, none⟩)], Ent.blk b2 34 (DataSet.enc d), Ent.blk b1 37 (DataSet.enc d ++ [vI n, Value.slice psA ps.length psC])]) ⟨rfl, rfl, rfl, rfl, rfl, rfl, rfl, rfl, rfl, rfl, rfl, rfl, trivial⟩ (fun _ h => (St.torow (cs := [Value.pointer (some ⟨b2, 0, none⟩), Value.pointer (some ⟨b2, 1, none⟩), Value.pointer (some ⟨b2, 2, none⟩), Value.pointer (some ⟨b2, 3, none⟩), Value.pointer (some ⟨b2, 4, none⟩), Value.pointer (some ⟨b2, 5, none⟩), Value.pointer (some ⟨b2, 6, none⟩), Value.pointer (some ⟨b2, 7, none⟩), Value.pointer (some ⟨b2, 8, none⟩), Value.pointer (some ⟨b2, 9, none⟩), Value.pointer (some ⟨b2, 10, none⟩), Value.pointer (some ⟨b2, 11, none⟩), Value.pointer (some ⟨b2, 12, none⟩), Value.pointer (some ⟨b2, 13, none⟩)]) ((((h.front 3 _ rfl).front 3 _ rfl).front 2 _ rfl).front 3 _ rfl) 1 14 rfl (by decide)).keep [true, true, true, true] rfl) ?_
  refine JO_op rfl trivial (O_append_m 0 vP [(⟨b2, 0, none⟩ : Addr), (⟨b2, 1, none⟩ : Addr), (⟨b2, 2, none⟩ : Addr), (⟨b2, 3, none⟩ : Addr), (⟨b2, 4, none⟩ : Addr), (⟨b2, 5, none⟩ : Addr), (⟨b2, 6, none⟩ : Addr), (⟨b2, 7, none⟩ : Addr), (⟨b2, 8, none⟩ : Addr), (⟨b2, 9, none⟩ : Addr), (⟨b2, 10, none⟩ : Addr), (⟨b2, 11, none⟩ : Addr), (⟨b2, 12, none⟩ : Addr), (⟨b2, 13, none⟩ : Addr)] [(⟨b2, 15, none⟩ : Addr), (⟨b2, 18, none⟩ : Addr), (⟨b2, 19, none⟩ : Addr), (⟨b1, 21, none⟩ : Addr)] Try.underlying63 Ty.sz66 Ty.by66 Ty.ze66 rfl rfl rfl rfl rfl (fun _ => rfl) (cells_blk 1 (off := 0) (m := 4) rfl rfl) lt_ lt_ fun A5 c6 => ?_)
  refine jr_ (Value.slice A5 (([(⟨b2, 0, none⟩ : Addr), (⟨b2, 1, none⟩ : Addr), (⟨b2, 2, none⟩ : Addr), (⟨b2, 3, none⟩ : Addr), (⟨b2, 4, none⟩ : Addr), (⟨b2, 5, none⟩ : Addr), (⟨b2, 6, none⟩ : Addr), (⟨b2, 7, none⟩ : Addr), (⟨b2, 8, none⟩ : Addr), (⟨b2, 9, none⟩ : Addr), (⟨b2, 10, none⟩ : Addr), (⟨b2, 11, none⟩ : Addr), (⟨b2, 12, none⟩ : Addr), (⟨b2, 13, none⟩ : Addr)] ++ [(⟨b2, 15, none⟩ : Addr), (⟨b2, 18, none⟩ : Addr), (⟨b2, 19, none⟩ : Addr), (⟨b1, 21, none⟩ : Addr)]).length) c6) ?_
  refine JO_nil (JX_then (J_seq (J_seq (J_region ?_))))
  refine jr_ (Value.slice A5 (([(⟨b2, 0, none⟩ : Addr), (⟨b2, 1, none⟩ : Addr), (⟨b2, 2, none⟩ : Addr), (⟨b2, 3, none⟩ : Addr), (⟨b2, 4, none⟩ : Addr), (⟨b2, 5, none⟩ : Addr), (⟨b2, 6, none⟩ : Addr), (⟨b2, 7, none⟩ : Addr), (⟨b2, 8, none⟩ : Addr), (⟨b2, 9, none⟩ : Addr), (⟨b2, 10, none⟩ : Addr), (⟨b2, 11, none⟩ : Addr), (⟨b2, 12, none⟩ : Addr), (⟨b2, 13, none⟩ : Addr)] ++ [(⟨b2, 15, none⟩ : Addr), (⟨b2, 18, none⟩ : Addr), (⟨b2, 19, none⟩ : Addr), (⟨b1, 21, none⟩ : Addr)]).length) c6) ?_
  refine JO_call [] [] [Ent.row (.slice A5 ([(⟨b2, 0, none⟩ : Addr), (⟨b2, 1, none⟩ : Addr), (⟨b2, 2, none⟩ : Addr), (⟨b2, 3, none⟩ : Addr), (⟨b2, 4, none⟩ : Addr), (⟨b2, 5, none⟩ : Addr), (⟨b2, 6, none⟩ : Addr), (⟨b2, 7, none⟩ : Addr), (⟨b2, 8, none⟩ : Addr), (⟨b2, 9, none⟩ : Addr), (⟨b2, 10, none⟩ : Addr), (⟨b2, 11, none⟩ : Addr), (⟨b2, 12, none⟩ : Addr), (⟨b2, 13, none⟩ : Addr)] ++ [(⟨b2, 15, none⟩ : Addr), (⟨b2, 18, none⟩ : Addr), (⟨b2, 19, none⟩ : Addr), (⟨b1, 21, none⟩ : Addr)]).length c6) 66 1 ([(⟨b2, 0, none⟩ : Addr), (⟨b2, 1, none⟩ : Addr), (⟨b2, 2, none⟩ : Addr), (⟨b2, 3, none⟩ : Addr), (⟨b2, 4, none⟩ : Addr), (⟨b2, 5, none⟩ : Addr), (⟨b2, 6, none⟩ : Addr), (⟨b2, 7, none⟩ : Addr), (⟨b2, 8, none⟩ : Addr), (⟨b2, 9, none⟩ : Addr), (⟨b2, 10, none⟩ : Addr), (⟨b2, 11, none⟩ : Addr), (⟨b2, 12, none⟩ : Addr), (⟨b2, 13, none⟩ : Addr)] ++ [(⟨b2, 15, none⟩ : Addr), (⟨b2, 18, none⟩ : Addr), (⟨b2, 19, none⟩ : Addr), (⟨b1, 21, none⟩ : Addr)]).length (([(⟨b2, 0, none⟩ : Addr), (⟨b2, 1, none⟩ : Addr), (⟨b2, 2, none⟩ : Addr), (⟨b2, 3, none⟩ : Addr), (⟨b2, 4, none⟩ : Addr), (⟨b2, 5, none⟩ : Addr), (⟨b2, 6, none⟩ : Addr), (⟨b2, 7, none⟩ : Addr), (⟨b2, 8, none⟩ : Addr), (⟨b2, 9, none⟩ : Addr), (⟨b2, 10, none⟩ : Addr), (⟨b2, 11, none⟩ : Addr), (⟨b2, 12, none⟩ : Addr), (⟨b2, 13, none⟩ : Addr)] ++ [(⟨b2, 15, none⟩ : Addr), (⟨b2, 18, none⟩ : Addr), (⟨b2, 19, none⟩ : Addr), (⟨b1, 21, none⟩ : Addr)]).map vP), Ent.blk b4 66 [Value.pointer (some ⟨b2, 15, none⟩), Value.pointer (some ⟨b2, 18, none⟩), Value.pointer (some ⟨b2, 19, none⟩), Value.pointer (some ⟨b1, 21, none⟩)], Ent.blk b2 34 (DataSet.enc d), Ent.blk b1 37 (DataSet.enc d ++ [vI n, Value.slice psA ps.length psC])] rfl trivial (fun _ => x_call Ty.ca37 rfl) (fun _ h => h) (fun _ h => by cases h) (fun w hS => f37_ok ([(⟨b2, 0, none⟩ : Addr), (⟨b2, 1, none⟩ : Addr), (⟨b2, 2, none⟩ : Addr), (⟨b2, 3, none⟩ : Addr), (⟨b2, 4, none⟩ : Addr), (⟨b2, 5, none⟩ : Addr), (⟨b2, 6, none⟩ : Addr), (⟨b2, 7, none⟩ : Addr), (⟨b2, 8, none⟩ : Addr), (⟨b2, 9, none⟩ : Addr), (⟨b2, 10, none⟩ : Addr), (⟨b2, 11, none⟩ : Addr), (⟨b2, 12, none⟩ : Addr), (⟨b2, 13, none⟩ : Addr)] ++ [(⟨b2, 15, none⟩ : Addr), (⟨b2, 18, none⟩ : Addr), (⟨b2, 19, none⟩ : Addr), (⟨b1, 21, none⟩ : Addr)]) A5 c6 [d.Id, d.Org, d.Format, d.Length, d.Block, d.KeyAt, d.KeyLength, d.Interval, d.Area, d.FreeInterval, d.FreeArea, d.Base, d.AltAt, d.AltLength, d.Class, d.Created, d.Expires, n] w (RO.of_row hS 0 rfl) (derefs_cons (RO.of_blk hS 2 (off := 0) (m := 1) rfl rfl) (derefs_cons (RO.of_blk hS 2 (off := 1) (m := 1) rfl rfl) (derefs_cons (RO.of_blk hS 2 (off := 2) (m := 1) rfl rfl) (derefs_cons (RO.of_blk hS 2 (off := 3) (m := 1) rfl rfl) (derefs_cons (RO.of_blk hS 2 (off := 4) (m := 1) rfl rfl) (derefs_cons (RO.of_blk hS 2 (off := 5) (m := 1) rfl rfl) (derefs_cons (RO.of_blk hS 2 (off := 6) (m := 1) rfl rfl) (derefs_cons (RO.of_blk hS 2 (off := 7) (m := 1) rfl rfl) (derefs_cons (RO.of_blk hS 2 (off := 8) (m := 1) rfl rfl) (derefs_cons (RO.of_blk hS 2 (off := 9) (m := 1) rfl rfl) (derefs_cons (RO.of_blk hS 2 (off := 10) (m := 1) rfl rfl) (derefs_cons (RO.of_blk hS 2 (off := 11) (m := 1) rfl rfl) (derefs_cons (RO.of_blk hS 2 (off := 12) (m := 1) rfl rfl) (derefs_cons (RO.of_blk hS 2 (off := 13) (m := 1) rfl rfl) (derefs_cons (RO.of_blk hS 2 (off := 15) (m := 1) rfl rfl) (derefs_cons (RO.of_blk hS 2 (off := 18) (m := 1) rfl rfl) (derefs_cons (RO.of_blk hS 2 (off := 19) (m := 1) rfl rfl) (derefs_cons (RO.of_blk hS 3 (off := 21) (m := 1) rfl rfl) derefs_nil)))))))))))))))))) hy_) ?_
  rintro _ _ ⟨rfl, rfl⟩
  refine JO_nil (JX_then ?_)
  refine J_cond ([d.Id, d.Org, d.Format, d.Length, d.Block, d.KeyAt, d.KeyLength, d.Interval, d.Area, d.FreeInterval, d.FreeArea, d.Base, d.AltAt, d.AltLength, d.Class, d.Created, d.Expires, n].any (fun x => !R14.okN x)) rfl rfl (fun h7 => ?_) (fun h7 => ?_)
  · refine J_seq (J_region ?_)
    refine jr_ (vB false) ?_
    refine JO_nil (JX_then (J_ret (JX_then_ret ?_)))
    refine JX_rets [vB false] (vB false) Try.results20 (fun w h => ⟨rfl, trivial⟩) rfl [] (fun _ h => h.keep [false, false, false, false] rfl) ⟨?_, ?_⟩
    · have e_x0 : (false : Bool) = (R14.valid d n ps) := by first | exact R14.valid_bad1 (by assumption) | exact R14.valid_fin (by assumption) (by omega) | exact R14.valid_bad2 (by omega)
      exact congrArg (fun (x0 : Bool) => vB x0) e_x0
    · rfl
  · refine J_skip (JX_then (J_seq (J_seq (J_region ?_))))
    refine JO_read (Value.pointer (some ⟨b2, 17, none⟩)) rfl trivial (fun _ _ => x_fieldAddr Ty.fi34_17 rfl rfl) ?_
    refine JO_read (vS d.Owner) rfl trivial (x_load 2 rfl rfl Ty.sc9 rfl) ?_
    refine JO_read (vI ((d.Owner.length : Nat) : Int)) rfl trivial (fun _ _ => x_len_s rfl Try.underlying9) ?_
    refine JO_read (vB (decide ((31 : Int) < ((d.Owner.length : Nat) : Int)))) rfl trivial (fun _ _ => x_gtr_i rfl rfl) ?_
    refine jr_ (vB (decide ((31 : Int) < ((d.Owner.length : Nat) : Int)))) ?_
    refine JO_cut (X := Bool) 5 (fun z => z = ((decide ((31 : Int) < ((d.Owner.length : Nat) : Int))) || (decide ((31 : Int) < ((d.Volume.length : Nat) : Int))))) (fun z => [(1, Value.pointer (some ⟨b1, 0, none⟩)), (2, vB false), (25, vB z)]) (fun _ => [Ent.row (.slice A5 ([(⟨b2, 0, none⟩ : Addr), (⟨b2, 1, none⟩ : Addr), (⟨b2, 2, none⟩ : Addr), (⟨b2, 3, none⟩ : Addr), (⟨b2, 4, none⟩ : Addr), (⟨b2, 5, none⟩ : Addr), (⟨b2, 6, none⟩ : Addr), (⟨b2, 7, none⟩ : Addr), (⟨b2, 8, none⟩ : Addr), (⟨b2, 9, none⟩ : Addr), (⟨b2, 10, none⟩ : Addr), (⟨b2, 11, none⟩ : Addr), (⟨b2, 12, none⟩ : Addr), (⟨b2, 13, none⟩ : Addr)] ++ [(⟨b2, 15, none⟩ : Addr), (⟨b2, 18, none⟩ : Addr), (⟨b2, 19, none⟩ : Addr), (⟨b1, 21, none⟩ : Addr)]).length c6) 66 1 ([(⟨b2, 0, none⟩ : Addr), (⟨b2, 1, none⟩ : Addr), (⟨b2, 2, none⟩ : Addr), (⟨b2, 3, none⟩ : Addr), (⟨b2, 4, none⟩ : Addr), (⟨b2, 5, none⟩ : Addr), (⟨b2, 6, none⟩ : Addr), (⟨b2, 7, none⟩ : Addr), (⟨b2, 8, none⟩ : Addr), (⟨b2, 9, none⟩ : Addr), (⟨b2, 10, none⟩ : Addr), (⟨b2, 11, none⟩ : Addr), (⟨b2, 12, none⟩ : Addr), (⟨b2, 13, none⟩ : Addr)] ++ [(⟨b2, 15, none⟩ : Addr), (⟨b2, 18, none⟩ : Addr), (⟨b2, 19, none⟩ : Addr), (⟨b1, 21, none⟩ : Addr)]).length (([(⟨b2, 0, none⟩ : Addr), (⟨b2, 1, none⟩ : Addr), (⟨b2, 2, none⟩ : Addr), (⟨b2, 3, none⟩ : Addr), (⟨b2, 4, none⟩ : Addr), (⟨b2, 5, none⟩ : Addr), (⟨b2, 6, none⟩ : Addr), (⟨b2, 7, none⟩ : Addr), (⟨b2, 8, none⟩ : Addr), (⟨b2, 9, none⟩ : Addr), (⟨b2, 10, none⟩ : Addr), (⟨b2, 11, none⟩ : Addr), (⟨b2, 12, none⟩ : Addr), (⟨b2, 13, none⟩ : Addr)] ++ [(⟨b2, 15, none⟩ : Addr), (⟨b2, 18, none⟩ : Addr), (⟨b2, 19, none⟩ : Addr), (⟨b1, 21, none⟩ : Addr)]).map vP), Ent.blk b4 66 [Value.pointer (some ⟨b2, 15, none⟩), Value.pointer (some ⟨b2, 18, none⟩), Value.pointer (some ⟨b2, 19, none⟩), Value.pointer (some ⟨b1, 21, none⟩)], Ent.blk b2 34 (DataSet.enc d), Ent.blk b1 37 (DataSet.enc d ++ [vI n, Value.slice psA ps.length psC])]) ?_ ?_
    · rcases Bool.eq_false_or_eq_true (decide ((31 : Int) < ((d.Owner.length : Nat) : Int))) with g9 | g9
      · have g9r := g9
        have g9r := of_decide_eq_true g9r
        refine JO_shun rfl ⟨_, rfl, g9⟩ ?_
        refine JO_shun rfl ⟨_, rfl, g9⟩ ?_
        refine JO_shun rfl ⟨_, rfl, g9⟩ ?_
        refine JO_shun rfl ⟨_, rfl, g9⟩ ?_
        refine JO_read (vB true) rfl trivial (fun _ _ => x_pick_t rfl g9 rfl) ?_
        refine JO_nil (JX_cut (true) (by rw [g9]; simp) ⟨rfl, rfl, rfl, trivial⟩ (fun _ h => h))
      · have g9r := g9
        have g9r := of_decide_eq_false g9r
        refine JO_read (Value.pointer (some ⟨b2, 16, none⟩)) rfl ⟨_, rfl, g9⟩ (fun _ _ => x_fieldAddr Ty.fi34_16 rfl rfl) ?_
        refine JO_read (vS d.Volume) rfl ⟨_, rfl, g9⟩ (x_load 2 rfl rfl Ty.sc9 rfl) ?_
        refine JO_read (vI ((d.Volume.length : Nat) : Int)) rfl ⟨_, rfl, g9⟩ (fun _ _ => x_len_s rfl Try.underlying9) ?_
        refine JO_read (vB (decide ((31 : Int) < ((d.Volume.length : Nat) : Int)))) rfl ⟨_, rfl, g9⟩ (fun _ _ => x_gtr_i rfl rfl) ?_
        refine JO_read (vB (decide ((31 : Int) < ((d.Volume.length : Nat) : Int)))) rfl trivial (fun _ _ => x_pick_f rfl g9 rfl) ?_
        refine JO_nil (JX_cut (decide ((31 : Int) < ((d.Volume.length : Nat) : Int))) (by rw [g9]; simp) ⟨rfl, rfl, rfl, trivial⟩ (fun _ h => h))
    rintro z8 rfl
    refine jr_ (vB ((decide ((31 : Int) < ((d.Owner.length : Nat) : Int))) || (decide ((31 : Int) < ((d.Volume.length : Nat) : Int))))) ?_
    refine JO_cut (X := Bool) 5 (fun z => z = (((decide ((31 : Int) < ((d.Owner.length : Nat) : Int))) || (decide ((31 : Int) < ((d.Volume.length : Nat) : Int)))) || (decide ((1024 : Int) < ((ps.length : Nat) : Int))))) (fun z => [(1, Value.pointer (some ⟨b1, 0, none⟩)), (2, vB false), (31, vB z)]) (fun _ => [Ent.row (.slice A5 ([(⟨b2, 0, none⟩ : Addr), (⟨b2, 1, none⟩ : Addr), (⟨b2, 2, none⟩ : Addr), (⟨b2, 3, none⟩ : Addr), (⟨b2, 4, none⟩ : Addr), (⟨b2, 5, none⟩ : Addr), (⟨b2, 6, none⟩ : Addr), (⟨b2, 7, none⟩ : Addr), (⟨b2, 8, none⟩ : Addr), (⟨b2, 9, none⟩ : Addr), (⟨b2, 10, none⟩ : Addr), (⟨b2, 11, none⟩ : Addr), (⟨b2, 12, none⟩ : Addr), (⟨b2, 13, none⟩ : Addr)] ++ [(⟨b2, 15, none⟩ : Addr), (⟨b2, 18, none⟩ : Addr), (⟨b2, 19, none⟩ : Addr), (⟨b1, 21, none⟩ : Addr)]).length c6) 66 1 ([(⟨b2, 0, none⟩ : Addr), (⟨b2, 1, none⟩ : Addr), (⟨b2, 2, none⟩ : Addr), (⟨b2, 3, none⟩ : Addr), (⟨b2, 4, none⟩ : Addr), (⟨b2, 5, none⟩ : Addr), (⟨b2, 6, none⟩ : Addr), (⟨b2, 7, none⟩ : Addr), (⟨b2, 8, none⟩ : Addr), (⟨b2, 9, none⟩ : Addr), (⟨b2, 10, none⟩ : Addr), (⟨b2, 11, none⟩ : Addr), (⟨b2, 12, none⟩ : Addr), (⟨b2, 13, none⟩ : Addr)] ++ [(⟨b2, 15, none⟩ : Addr), (⟨b2, 18, none⟩ : Addr), (⟨b2, 19, none⟩ : Addr), (⟨b1, 21, none⟩ : Addr)]).length (([(⟨b2, 0, none⟩ : Addr), (⟨b2, 1, none⟩ : Addr), (⟨b2, 2, none⟩ : Addr), (⟨b2, 3, none⟩ : Addr), (⟨b2, 4, none⟩ : Addr), (⟨b2, 5, none⟩ : Addr), (⟨b2, 6, none⟩ : Addr), (⟨b2, 7, none⟩ : Addr), (⟨b2, 8, none⟩ : Addr), (⟨b2, 9, none⟩ : Addr), (⟨b2, 10, none⟩ : Addr), (⟨b2, 11, none⟩ : Addr), (⟨b2, 12, none⟩ : Addr), (⟨b2, 13, none⟩ : Addr)] ++ [(⟨b2, 15, none⟩ : Addr), (⟨b2, 18, none⟩ : Addr), (⟨b2, 19, none⟩ : Addr), (⟨b1, 21, none⟩ : Addr)]).map vP), Ent.blk b4 66 [Value.pointer (some ⟨b2, 15, none⟩), Value.pointer (some ⟨b2, 18, none⟩), Value.pointer (some ⟨b2, 19, none⟩), Value.pointer (some ⟨b1, 21, none⟩)], Ent.blk b2 34 (DataSet.enc d), Ent.blk b1 37 (DataSet.enc d ++ [vI n, Value.slice psA ps.length psC])]) ?_ ?_
    · rcases Bool.eq_false_or_eq_true ((decide ((31 : Int) < ((d.Owner.length : Nat) : Int))) || (decide ((31 : Int) < ((d.Volume.length : Nat) : Int)))) with g11 | g11
      · have g11r := g11
        simp only [Bool.and_eq_true, Bool.or_eq_true, Bool.and_eq_false_iff, Bool.or_eq_false_iff, Bool.not_eq_true', Bool.not_eq_false', decide_eq_true_eq, decide_eq_false_iff_not] at g11r
        refine JO_shun rfl ⟨_, rfl, g11⟩ ?_
        refine JO_shun rfl ⟨_, rfl, g11⟩ ?_
        refine JO_shun rfl ⟨_, rfl, g11⟩ ?_
        refine JO_shun rfl ⟨_, rfl, g11⟩ ?_
        refine JO_read (vB true) rfl trivial (fun _ _ => x_pick_t rfl g11 rfl) ?_
        refine JO_nil (JX_cut (true) (by rw [g11]; simp) ⟨rfl, rfl, rfl, trivial⟩ (fun _ h => h))
      · have g11r := g11
        have ⟨g11r, h12⟩ := bor_false g11r
        have g11r := of_decide_eq_false g11r
        have h12 := of_decide_eq_false h12
        refine JO_read (Value.pointer (some ⟨b1, 22, none⟩)) rfl ⟨_, rfl, g11⟩ (fun _ _ => x_fieldAddr Ty.fi37_2 rfl rfl) ?_
        refine JO_read (Value.slice psA ps.length psC) rfl ⟨_, rfl, g11⟩ (x_load 3 rfl rfl Ty.sc35 rfl) ?_
        refine JO_read (vI ((ps.length : Nat) : Int)) rfl ⟨_, rfl, g11⟩ (fun _ _ => x_len_sl Try.underlying35 rfl) ?_
        refine JO_read (vB (decide ((1024 : Int) < ((ps.length : Nat) : Int)))) rfl ⟨_, rfl, g11⟩ (fun _ _ => x_gtr_i rfl rfl) ?_
        refine JO_read (vB (decide ((1024 : Int) < ((ps.length : Nat) : Int)))) rfl trivial (fun _ _ => x_pick_f rfl g11 rfl) ?_
        refine JO_nil (JX_cut (decide ((1024 : Int) < ((ps.length : Nat) : Int))) (by rw [g11]; simp) ⟨rfl, rfl, rfl, trivial⟩ (fun _ h => h))
    rintro z10 rfl
    refine JO_nil (JX_then ?_)
    refine J_cond (((decide ((31 : Int) < ((d.Owner.length : Nat) : Int))) || (decide ((31 : Int) < ((d.Volume.length : Nat) : Int)))) || (decide ((1024 : Int) < ((ps.length : Nat) : Int)))) rfl rfl (fun h13 => ?_) (fun h13 => ?_)
    · simp only [Bool.and_eq_true, Bool.or_eq_true, Bool.and_eq_false_iff, Bool.or_eq_false_iff, Bool.not_eq_true', Bool.not_eq_false', decide_eq_true_eq, decide_eq_false_iff_not] at h13
      refine J_seq (J_region ?_)
      refine jr_ (vB false) ?_
      refine JO_nil (JX_then (J_ret (JX_then_ret ?_)))
      refine JX_rets [vB false] (vB false) Try.results20 (fun w h => ⟨rfl, trivial⟩) rfl [] (fun _ h => h.keep [false, false, false, false] rfl) ⟨?_, ?_⟩
      · have e_x0 : (false : Bool) = (R14.valid d n ps) := by first | exact R14.valid_bad1 (by assumption) | exact R14.valid_fin (by assumption) (by omega) | exact R14.valid_bad2 (by omega)
        exact congrArg (fun (x0 : Bool) => vB x0) e_x0
      · rfl
    · have ⟨h13, h14⟩ := bor_false h13
      have ⟨h13, h15⟩ := bor_false h13
      have h13 := of_decide_eq_false h13
      have h15 := of_decide_eq_false h15
      have h14 := of_decide_eq_false h14
      refine J_skip (JX_then (J_seq (J_region ?_)))
      refine JO_read (Value.pointer (some ⟨b1, 22, none⟩)) rfl trivial (fun _ _ => x_fieldAddr Ty.fi37_2 rfl rfl) ?_
      refine JO_read (Value.slice psA ps.length psC) rfl trivial (x_load 3 rfl rfl Ty.sc35 rfl) ?_
      refine JO_call [] [] [Ent.row (.slice A5 ([(⟨b2, 0, none⟩ : Addr), (⟨b2, 1, none⟩ : Addr), (⟨b2, 2, none⟩ : Addr), (⟨b2, 3, none⟩ : Addr), (⟨b2, 4, none⟩ : Addr), (⟨b2, 5, none⟩ : Addr), (⟨b2, 6, none⟩ : Addr), (⟨b2, 7, none⟩ : Addr), (⟨b2, 8, none⟩ : Addr), (⟨b2, 9, none⟩ : Addr), (⟨b2, 10, none⟩ : Addr), (⟨b2, 11, none⟩ : Addr), (⟨b2, 12, none⟩ : Addr), (⟨b2, 13, none⟩ : Addr)] ++ [(⟨b2, 15, none⟩ : Addr), (⟨b2, 18, none⟩ : Addr), (⟨b2, 19, none⟩ : Addr), (⟨b1, 21, none⟩ : Addr)]).length c6) 66 1 ([(⟨b2, 0, none⟩ : Addr), (⟨b2, 1, none⟩ : Addr), (⟨b2, 2, none⟩ : Addr), (⟨b2, 3, none⟩ : Addr), (⟨b2, 4, none⟩ : Addr), (⟨b2, 5, none⟩ : Addr), (⟨b2, 6, none⟩ : Addr), (⟨b2, 7, none⟩ : Addr), (⟨b2, 8, none⟩ : Addr), (⟨b2, 9, none⟩ : Addr), (⟨b2, 10, none⟩ : Addr), (⟨b2, 11, none⟩ : Addr), (⟨b2, 12, none⟩ : Addr), (⟨b2, 13, none⟩ : Addr)] ++ [(⟨b2, 15, none⟩ : Addr), (⟨b2, 18, none⟩ : Addr), (⟨b2, 19, none⟩ : Addr), (⟨b1, 21, none⟩ : Addr)]).length (([(⟨b2, 0, none⟩ : Addr), (⟨b2, 1, none⟩ : Addr), (⟨b2, 2, none⟩ : Addr), (⟨b2, 3, none⟩ : Addr), (⟨b2, 4, none⟩ : Addr), (⟨b2, 5, none⟩ : Addr), (⟨b2, 6, none⟩ : Addr), (⟨b2, 7, none⟩ : Addr), (⟨b2, 8, none⟩ : Addr), (⟨b2, 9, none⟩ : Addr), (⟨b2, 10, none⟩ : Addr), (⟨b2, 11, none⟩ : Addr), (⟨b2, 12, none⟩ : Addr), (⟨b2, 13, none⟩ : Addr)] ++ [(⟨b2, 15, none⟩ : Addr), (⟨b2, 18, none⟩ : Addr), (⟨b2, 19, none⟩ : Addr), (⟨b1, 21, none⟩ : Addr)]).map vP), Ent.blk b4 66 [Value.pointer (some ⟨b2, 15, none⟩), Value.pointer (some ⟨b2, 18, none⟩), Value.pointer (some ⟨b2, 19, none⟩), Value.pointer (some ⟨b1, 21, none⟩)], Ent.blk b2 34 (DataSet.enc d), Ent.blk b1 37 (DataSet.enc d ++ [vI n, Value.slice psA ps.length psC])] rfl trivial (fun _ => x_call Ty.ca40 rfl) (fun _ h => h) (fun _ h => by cases h) (fun w hS => f40_ok ps psA psC w (psR.on hS (fun _ h => by cases h)) hy_) ?_
      rintro _ _ ⟨rfl, rfl⟩
      refine JO_read (vB (!(ps.any R14.badP))) rfl trivial (fun _ _ => x_not rfl) ?_
      refine jr_ (vB (!(ps.any R14.badP))) ?_
      refine JO_nil (JX_then (J_ret ?_))
      refine JX_rets [vB (!(ps.any R14.badP))] (vB (!(ps.any R14.badP))) Try.results20 (fun w h => ⟨rfl, trivial⟩) rfl [] (fun _ h => h.keep [false, false, false, false] rfl) ⟨?_, ?_⟩
      · have e_x0 : (!(ps.any R14.badP) : Bool) = (R14.valid d n ps) := by first | exact R14.valid_bad1 (by assumption) | exact R14.valid_fin (by assumption) (by omega) | exact R14.valid_bad2 (by omega)
        exact congrArg (fun (x0 : Bool) => vB x0) e_x0
      · rfl
end Go.Proofs.Ytodfebhimadaiaa
