/- contracts C47d -/
import Derived.Test.YtknibpmmjhmjeaaDoorC47c
namespace Go.Proofs.YtknibpmmjhmjeaaDoor
open Go.GV
set_option linter.unusedVariables false
set_option linter.unusedSimpArgs false

set_option maxRecDepth 20000 in
theorem f13_ok (c : Change) (w : World) (hT : Tab [] w) (q0 : c.Volume.length ≤ 9223372036854775807) : Calls Tryd.prog 13 #[Value.agg ((Change.enc c)).toArray] w (Gives [] w fun v L => v = vS (R47.text c) ∧ L = []) := by
  have htx := R47.kind_valid c
  refine calls_J [] 30 Tryd.func13 rfl Tryd.ntmps13 [(0, Value.agg ((Change.enc c)).toArray)] rfl rfl (Give.nil w) ?_
  rcases R47.kinds c.Kind with hc | hc | hc | hc | hc | hc | hc | hc | hc
  · refine J_seq ?_
    refine J_region ?_
    refine JO_op rfl trivial (O_box rfl rfl fun b1 => ?_)
    refine JO_read (vS []) rfl trivial (fun _ _ => rfl) ?_
    refine JO_nil ?_
    refine JX_then ?_
    refine J_seq ?_
    refine J_seq ?_
    refine J_region ?_
    refine JO_read (Value.agg ((Change.enc c)).toArray) rfl trivial (x_loadN 0 (Change.enc c) rfl rfl Ty.ag23 Ty.sz23 rfl) ?_
    refine JO_call [] [] [Ent.blk b1 23 (Change.enc c)] rfl trivial (fun _ => x_call Ty.ca11 rfl) (fun _ h => h) (fun _ h => by cases h) (fun w hS => f11_ok c w hy_) ?_
    rintro _ _ ⟨rfl, rfl⟩
    refine JO_read (vB (!(R47.valid c))) rfl trivial (fun _ _ => x_not rfl) ?_
    refine JO_nil ?_
    refine JX_then ?_
    refine J_cond (!(R47.valid c)) rfl rfl (fun h2 => ?_) (fun h2 => ?_)
    · have h2 : (R47.valid c) = false := bnot_true h2
      refine J_seq ?_
      refine J_region ?_
      refine JO_read (vS []) rfl trivial (fun _ _ => rfl) ?_
      refine JO_nil ?_
      refine JX_then ?_
      refine J_ret ?_
      refine JX_then_ret ?_
      refine JX_rets [vS []] (vS []) Tryd.results13 (fun w h => ⟨rfl, trivial⟩) rfl [] (fun _ h => h.keep [false] rfl) ⟨?_, ?_⟩
      · have e_x0 : ([] : Bytes) = (R47.text c) := by
          first | exact (R47.text_no (by assumption)).symm | exact (R47.text0 (by assumption) (by omega)).symm | exact (R47.rtext0 (by assumption) (by omega)).symm | exact (R47.text1 (by assumption) (by omega)).symm | exact (R47.rtext1 (by assumption) (by omega)).symm | exact (R47.text2 (by assumption) (by omega)).symm | exact (R47.rtext2 (by assumption) (by omega)).symm | exact (R47.text3 (by assumption) (by omega)).symm | exact (R47.rtext3 (by assumption) (by omega)).symm | exact (R47.text4 (by assumption) (by omega)).symm | exact (R47.rtext4 (by assumption) (by omega)).symm | exact (R47.text5 (by assumption) (by omega)).symm | exact (R47.rtext5 (by assumption) (by omega)).symm | exact (R47.text6 (by assumption) (by omega)).symm | exact (R47.rtext6 (by assumption) (by omega)).symm | exact (R47.text7 (by assumption) (by omega)).symm | exact (R47.rtext7 (by assumption) (by omega)).symm
        exact congrArg (fun (x0 : Bytes) => vS x0) e_x0
      · rfl
    · have h2 : (R47.valid c) = true := bnot_false h2
      have hi3 := R47.valid_facts h2
      refine J_skip ?_
      refine JX_then ?_
      refine J_seq ?_
      refine J_draw [] [5] [Ent.blk b1 23 (Change.enc c)] 6 Ty.mixed rfl ?_
      refine JA_take 1 (Value.pointer (some ⟨b1, 0, none⟩)) rfl (by kernel_rfl) (by kernel_rfl) (by kernel_rfl) rfl (fun _ _ _ h => h) rfl trivial (fun _ _ => x_fieldAddr Ty.fi23_0 rfl rfl) ?_
      refine JA_early 2 (vI c.Kind) rfl (by kernel_rfl) (by kernel_rfl) (by kernel_rfl) rfl (by kernel_rfl) (fun _ _ _ h => h) rfl trivial (x_load 0 rfl rfl Ty.sc3 rfl) ?_
      refine JA_finX (X := Nat × Nat) (fun ⟨b7, B5⟩ => [(1, Value.pointer (some ⟨b1, 0, none⟩)), (2, vS []), (3, Value.pointer (some ⟨b7, 0, none⟩))]) (fun ⟨b7, B5⟩ => [Ent.blk b7 61 [vS [112, 117, 116], vI 1, vI 32, vI 1, vI 200, vB false, Value.func (.func 55) #[] #[Value.pointer (some ⟨B5, 0, none⟩)]], Ent.blk B5 26 [Value.func (.func 53) #[] #[]], Ent.blk b1 23 (Change.enc c)]) ?_ (fun key4 => ?_)
      · rintro ⟨b7, B5⟩
        show JX _ _ _ _ _ [(1, Value.pointer (some ⟨b1, 0, none⟩)), (2, vS []), (3, Value.pointer (some ⟨b7, 0, none⟩))] [Ent.blk b7 61 [vS [112, 117, 116], vI 1, vI 32, vI 1, vI 200, vB false, Value.func (.func 55) #[] #[Value.pointer (some ⟨B5, 0, none⟩)]], Ent.blk B5 26 [Value.func (.func 53) #[] #[]], Ent.blk b1 23 (Change.enc c)]
        refine JX_then ?_
        refine J_seq ?_
        refine J_draw [Ent.blk b7 61 [vS [112, 117, 116], vI 1, vI 32, vI 1, vI 200, vB false, Value.func (.func 55) #[] #[Value.pointer (some ⟨B5, 0, none⟩)]], Ent.blk B5 26 [Value.func (.func 53) #[] #[]], Ent.blk b1 23 (Change.enc c)] [] [Ent.blk b7 61 [vS [112, 117, 116], vI 1, vI 32, vI 1, vI 200, vB false, Value.func (.func 55) #[] #[Value.pointer (some ⟨B5, 0, none⟩)]], Ent.blk B5 26 [Value.func (.func 53) #[] #[]], Ent.blk b1 23 (Change.enc c)] 8 Ty.mixed rfl ?_
        refine JA_take 0 (Value.pointer (some ⟨b7, 0, none⟩)) rfl (by kernel_rfl) (by kernel_rfl) (by kernel_rfl) rfl (fun _ _ _ h => h) rfl trivial (fun _ _ => x_fieldAddr Ty.fi61_0 rfl rfl) ?_
        refine JA_take 1 (vS [112, 117, 116]) rfl (by kernel_rfl) (by kernel_rfl) (by kernel_rfl) rfl (fun _ _ _ h => h) rfl trivial (x_load 0 rfl rfl Ty.sc9 rfl) ?_
        refine JA_take 2 (vS ([112, 117, 116] ++ [32])) rfl (by kernel_rfl) (by kernel_rfl) (by kernel_rfl) rfl (fun _ _ _ h => h) rfl trivial (fun _ _ => x_cat_s rfl rfl (by first | omega | (simp only [List.length_append, List.length_cons, List.length_nil]; omega) | (simp; omega) | (simp_all; omega))) ?_
        refine JA_take 3 (Value.pointer (some ⟨b1, 1, none⟩)) rfl (by kernel_rfl) (by kernel_rfl) (by kernel_rfl) rfl (fun _ _ _ h => h) rfl trivial (fun _ _ => x_fieldAddr Ty.fi23_1 rfl rfl) ?_
        refine JA_take 4 (vI c.Id) rfl (by kernel_rfl) (by kernel_rfl) (by kernel_rfl) rfl (fun _ _ _ h => h) rfl trivial (x_load 2 rfl rfl Ty.sc3 rfl) ?_
        refine JA_one 5 (by kernel_rfl) (fun _ h => ⟨h, fun _ => h⟩) ?_
        refine JI_call [] [] [Ent.blk b7 61 [vS [112, 117, 116], vI 1, vI 32, vI 1, vI 200, vB false, Value.func (.func 55) #[] #[Value.pointer (some ⟨B5, 0, none⟩)]], Ent.blk B5 26 [Value.func (.func 53) #[] #[]], Ent.blk b1 23 (Change.enc c)] rfl rfl trivial (fun _ => x_call Ty.ca38 rfl) (fun _ h => h) (fun _ h => by cases h) (fun w hS => itoa_ok c.Id w (hT.on hS (fun _ h => by cases h)) hy_ hy_) ?_
        rintro _ _ ⟨rfl, rfl⟩
        have ha5 := R47.dec_len c.Id (by omega)
        refine JA_take 6 (vS (([112, 117, 116] ++ [32]) ++ (Lib.decDigits c.Id.toNat))) rfl (by kernel_rfl) (by kernel_rfl) (by kernel_rfl) rfl (fun _ _ _ h => h) rfl trivial (fun _ _ => x_cat_s rfl rfl (by first | omega | (simp only [List.length_append, List.length_cons, List.length_nil]; omega) | (simp; omega) | (simp_all; omega))) ?_
        refine JA_take 7 (vS (([112, 117, 116] ++ [32]) ++ (Lib.decDigits c.Id.toNat))) rfl (by kernel_rfl) (by kernel_rfl) (by kernel_rfl) rfl (fun _ _ _ h => h) rfl trivial (fun _ _ => rfl) ?_
        refine JA_done (by kernel_rfl) (fun _ h => ⟨h, fun _ => h⟩) ?_
        refine JX_then ?_
        refine J_seq ?_
        refine J_seq ?_
        refine J_region ?_
        refine JO_read (Value.pointer (some ⟨b7, 6, none⟩)) rfl trivial (fun _ _ => x_fieldAddr Ty.fi61_4 rfl rfl) ?_
        refine JO_read (Value.func (.func 55) #[] #[Value.pointer (some ⟨B5, 0, none⟩)]) rfl trivial (x_load 0 rfl rfl Ty.sc26 rfl) ?_
        refine JO_read (vB true) rfl trivial (fun _ _ => x_neq_fn rfl rfl Tryd.underlying26 rfl) ?_
        refine JO_nil ?_
        refine JX_then ?_
        refine J_cond true rfl rfl (fun h => ?_) (fun h => by cases h)
        refine J_region ?_
        refine JO_read (vS (([112, 117, 116] ++ [32]) ++ (Lib.decDigits c.Id.toNat))) rfl trivial (fun _ _ => rfl) ?_
        refine JO_read (Value.pointer (some ⟨b7, 6, none⟩)) rfl trivial (fun _ _ => x_fieldAddr Ty.fi61_4 rfl rfl) ?_
        refine JO_read (Value.func (.func 55) #[] #[Value.pointer (some ⟨B5, 0, none⟩)]) rfl trivial (x_load 0 rfl rfl Ty.sc26 rfl) ?_
        refine JO_read (Value.agg ((Change.enc c)).toArray) rfl trivial (x_loadN 2 (Change.enc c) rfl rfl Ty.ag23 Ty.sz23 rfl) ?_
        refine JO_call [B5] [Ent.blk B5 26 [Value.func (.func 53) #[] #[]]] [Ent.blk b7 61 [vS [112, 117, 116], vI 1, vI 32, vI 1, vI 200, vB false, Value.func (.func 55) #[] #[Value.pointer (some ⟨B5, 0, none⟩)]], Ent.blk b1 23 (Change.enc c)] rfl trivial (fun _ => x_callv (first := []) (caps := [Value.pointer (some ⟨B5, 0, none⟩)]) rfl Ty.ca55 rfl) (fun _ h => (((h.front 2 _ rfl).front 1 _ rfl).front 2 _ rfl).keep [true, true, true] rfl) (own_mem rfl) (fun w hS => f55_ok c B5 w (hT.on hS (own_mem rfl)) hy_ hy_ (hS.give (own_in rfl))) ?_
        rintro _ _ ⟨rfl, rfl⟩
        have ha6 := R47.dec_lenN c.Record.length (by omega)
        have ha7 := R47.hex_length c.Key
        refine JO_read (vS ([32] ++ (R47.hex c.Key ++ [32] ++ Lib.decDigits c.Record.length))) rfl trivial (fun _ _ => x_cat_s rfl rfl (by first | omega | (simp only [List.length_append, List.length_cons, List.length_nil]; omega) | (simp; omega) | (simp_all; omega))) ?_
        refine JO_read (vS ((([112, 117, 116] ++ [32]) ++ (Lib.decDigits c.Id.toNat)) ++ ([32] ++ (R47.hex c.Key ++ [32] ++ Lib.decDigits c.Record.length)))) rfl trivial (fun _ _ => x_cat_s rfl rfl (by first | omega | (simp only [List.length_append, List.length_cons, List.length_nil]; omega) | (simp; omega) | (simp_all; omega))) ?_
        refine JO_read (vS ((([112, 117, 116] ++ [32]) ++ (Lib.decDigits c.Id.toNat)) ++ ([32] ++ (R47.hex c.Key ++ [32] ++ Lib.decDigits c.Record.length)))) rfl trivial (fun _ _ => rfl) ?_
        refine JO_nil ?_
        refine JX_then ?_
        refine J_seq ?_
        refine J_region ?_
        refine JO_read (vS ((([112, 117, 116] ++ [32]) ++ (Lib.decDigits c.Id.toNat)) ++ ([32] ++ (R47.hex c.Key ++ [32] ++ Lib.decDigits c.Record.length)))) rfl trivial (fun _ _ => rfl) ?_
        refine JO_read (vS ((([112, 117, 116] ++ [32]) ++ (Lib.decDigits c.Id.toNat)) ++ ([32] ++ (R47.hex c.Key ++ [32] ++ Lib.decDigits c.Record.length)))) rfl trivial (fun _ _ => rfl) ?_
        refine JO_nil ?_
        refine JX_then ?_
        refine J_ret ?_
        refine JX_rets [vS ((([112, 117, 116] ++ [32]) ++ (Lib.decDigits c.Id.toNat)) ++ ([32] ++ (R47.hex c.Key ++ [32] ++ Lib.decDigits c.Record.length)))] (vS ((([112, 117, 116] ++ [32]) ++ (Lib.decDigits c.Id.toNat)) ++ ([32] ++ (R47.hex c.Key ++ [32] ++ Lib.decDigits c.Record.length)))) Tryd.results13 (fun w h => ⟨rfl, trivial⟩) rfl [] (fun _ h => h.keep [false, false, false] rfl) ⟨?_, ?_⟩
        · have e_x0 : ((([112, 117, 116] ++ [32]) ++ (Lib.decDigits c.Id.toNat)) ++ ([32] ++ (R47.hex c.Key ++ [32] ++ Lib.decDigits c.Record.length)) : Bytes) = (R47.text c) := by
            first | exact (R47.text_no (by assumption)).symm | exact (R47.text0 (by assumption) (by omega)).symm | exact (R47.rtext0 (by assumption) (by omega)).symm | exact (R47.text1 (by assumption) (by omega)).symm | exact (R47.rtext1 (by assumption) (by omega)).symm | exact (R47.text2 (by assumption) (by omega)).symm | exact (R47.rtext2 (by assumption) (by omega)).symm | exact (R47.text3 (by assumption) (by omega)).symm | exact (R47.rtext3 (by assumption) (by omega)).symm | exact (R47.text4 (by assumption) (by omega)).symm | exact (R47.rtext4 (by assumption) (by omega)).symm | exact (R47.text5 (by assumption) (by omega)).symm | exact (R47.rtext5 (by assumption) (by omega)).symm | exact (R47.text6 (by assumption) (by omega)).symm | exact (R47.rtext6 (by assumption) (by omega)).symm | exact (R47.text7 (by assumption) (by omega)).symm | exact (R47.rtext7 (by assumption) (by omega)).symm
          exact congrArg (fun (x0 : Bytes) => vS x0) e_x0
        · rfl
      · refine JA_ready (rs := [0, 4]) (by kernel_rfl) (by decide) (fun _ h => ⟨h.keep [false] rfl, fun _ => h⟩) (List.forall_mem_cons.2 ⟨?_, (List.forall_mem_cons.2 ⟨?_, all_nil⟩)⟩)
        · refine JI_call [] [] [Ent.blk b1 23 (Change.enc c)] rfl rfl trivial (fun _ => x_call Ty.ca34 rfl) (fun _ h => h) (fun _ h => by cases h) (fun w hS => f34_ok w) ?_
          rintro _ _ ⟨M8, B9, rfl, rfl⟩
          refine JA_ready (rs := [3, 4]) (by kernel_rfl) (by decide) (fun _ h => ⟨h.keep [false, false, false] rfl, fun _ => h.keep [false, false, true] rfl⟩) (List.forall_mem_cons.2 ⟨?_, (List.forall_mem_cons.2 ⟨?_, all_nil⟩)⟩)
          · refine JI_read (Value.agg #[vS [112, 117, 116], vI 1, vI 32, vI 1, vI 200, vB false, Value.func (.func 55) #[] #[Value.pointer (some ⟨B9, 0, none⟩)]]) rfl rfl trivial (x_lookup_v 0 (f := vI) (k := c.Kind) rfl rfl rfl Tryd.underlying63 (mapK_i Tryd.underlying3) Ty.ze61 (R47.look_at B9 (k := 0) hc (by decide)) rfl) ?_
            refine JA_one 4 (by kernel_rfl) (fun _ h => ⟨h.keep [false, false, false] rfl, fun _ => h.keep [false, false, true] rfl⟩) ?_
            refine JI_op rfl rfl trivial (O_alloc Ty.ze61 rfl fun b11 => ?_)
            refine JA_one 5 (by kernel_rfl) (fun _ h => ⟨h.keep [false, false, false, false] rfl, fun _ => h.keep [false, false, false, true] rfl⟩) ?_
            refine JI_op rfl rfl trivial (O_storeS (vs := [vS [112, 117, 116], vI 1, vI 32, vI 1, vI 200, vB false, Value.func (.func 55) #[] #[Value.pointer (some ⟨B9, 0, none⟩)]]) 0 [vS [112, 117, 116], vI 1, vI 32, vI 1, vI 200, vB false, Value.func (.func 55) #[] #[Value.pointer (some ⟨B9, 0, none⟩)]] [Ent.blk b11 61 [vS [112, 117, 116], vI 1, vI 32, vI 1, vI 200, vB false, Value.func (.func 55) #[] #[Value.pointer (some ⟨B9, 0, none⟩)]], Ent.mp vI M8 (R47.entries B9), Ent.blk B9 26 [Value.func (.func 53) #[] #[]], Ent.blk b1 23 (Change.enc c)] rfl rfl rfl Ty.sz61 rfl (Nat.le_of_ble_eq_true rfl) rfl rfl rfl ?_)
            exact JA_done (by kernel_rfl) (fun _ h => ⟨h.keep [false, false, false, false] rfl, fun hh => Bool.noConfusion (show false = true from hh)⟩) (JX_weaken (E' := [(1, Value.pointer (some ⟨b1, 0, none⟩)), (2, vS []), (3, Value.pointer (some ⟨b11, 0, none⟩))]) (L' := [Ent.blk b11 61 [vS [112, 117, 116], vI 1, vI 32, vI 1, vI 200, vB false, Value.func (.func 55) #[] #[Value.pointer (some ⟨B9, 0, none⟩)]], Ent.blk B9 26 [Value.func (.func 53) #[] #[]], Ent.blk b1 23 (Change.enc c)]) ⟨rfl, rfl, rfl, trivial⟩ (fun _ h => h.keep [true, false, true, true] rfl) (key4 (b11, B9)))
          · refine JI_op rfl rfl trivial (O_alloc Ty.ze61 rfl fun b12 => ?_)
            refine JA_one 3 (by kernel_rfl) (fun _ h => ⟨h.keep [false, false, false, false] rfl, fun _ => h.keep [false, false, false, true] rfl⟩) ?_
            refine JI_read (Value.agg #[vS [112, 117, 116], vI 1, vI 32, vI 1, vI 200, vB false, Value.func (.func 55) #[] #[Value.pointer (some ⟨B9, 0, none⟩)]]) rfl rfl trivial (x_lookup_v 1 (f := vI) (k := c.Kind) rfl rfl rfl Tryd.underlying63 (mapK_i Tryd.underlying3) Ty.ze61 (R47.look_at B9 (k := 0) hc (by decide)) rfl) ?_
            refine JA_one 5 (by kernel_rfl) (fun _ h => ⟨h.keep [false, false, false, false] rfl, fun _ => h.keep [false, false, false, true] rfl⟩) ?_
            refine JI_op rfl rfl trivial (O_storeS (vs := [vS [112, 117, 116], vI 1, vI 32, vI 1, vI 200, vB false, Value.func (.func 55) #[] #[Value.pointer (some ⟨B9, 0, none⟩)]]) 0 [vS [112, 117, 116], vI 1, vI 32, vI 1, vI 200, vB false, Value.func (.func 55) #[] #[Value.pointer (some ⟨B9, 0, none⟩)]] [Ent.blk b12 61 [vS [112, 117, 116], vI 1, vI 32, vI 1, vI 200, vB false, Value.func (.func 55) #[] #[Value.pointer (some ⟨B9, 0, none⟩)]], Ent.mp vI M8 (R47.entries B9), Ent.blk B9 26 [Value.func (.func 53) #[] #[]], Ent.blk b1 23 (Change.enc c)] rfl rfl rfl Ty.sz61 rfl (Nat.le_of_ble_eq_true rfl) rfl rfl rfl ?_)
            exact JA_done (by kernel_rfl) (fun _ h => ⟨h.keep [false, false, false, false] rfl, fun hh => Bool.noConfusion (show false = true from hh)⟩) (JX_weaken (E' := [(1, Value.pointer (some ⟨b1, 0, none⟩)), (2, vS []), (3, Value.pointer (some ⟨b12, 0, none⟩))]) (L' := [Ent.blk b12 61 [vS [112, 117, 116], vI 1, vI 32, vI 1, vI 200, vB false, Value.func (.func 55) #[] #[Value.pointer (some ⟨B9, 0, none⟩)]], Ent.blk B9 26 [Value.func (.func 53) #[] #[]], Ent.blk b1 23 (Change.enc c)]) ⟨rfl, rfl, rfl, trivial⟩ (fun _ h => h.keep [true, false, true, true] rfl) (key4 (b12, B9)))
        · refine JI_op rfl rfl trivial (O_alloc Ty.ze61 rfl fun b13 => ?_)
          refine JA_one 0 (by kernel_rfl) (fun _ h => ⟨h.keep [false, false] rfl, fun _ => h.keep [false, true] rfl⟩) ?_
          refine JI_call [] [] [Ent.blk b13 61 [vS [], vI 0, vI 0, vI 0, vI 0, vB false, Value.nilFunc], Ent.blk b1 23 (Change.enc c)] rfl rfl trivial (fun _ => x_call Ty.ca34 rfl) (fun _ h => h) (fun _ h => by cases h) (fun w hS => f34_ok w) ?_
          rintro _ _ ⟨M14, B15, rfl, rfl⟩
          refine JA_one 3 (by kernel_rfl) (fun _ h => ⟨h.keep [false, false, false, false] rfl, fun _ => h.keep [false, false, false, true] rfl⟩) ?_
          refine JI_read (Value.agg #[vS [112, 117, 116], vI 1, vI 32, vI 1, vI 200, vB false, Value.func (.func 55) #[] #[Value.pointer (some ⟨B15, 0, none⟩)]]) rfl rfl trivial (x_lookup_v 0 (f := vI) (k := c.Kind) rfl rfl rfl Tryd.underlying63 (mapK_i Tryd.underlying3) Ty.ze61 (R47.look_at B15 (k := 0) hc (by decide)) rfl) ?_
          refine JA_one 5 (by kernel_rfl) (fun _ h => ⟨h.keep [false, false, false, false] rfl, fun _ => h.keep [false, false, false, true] rfl⟩) ?_
          refine JI_op rfl rfl trivial (O_storeS (vs := [vS [112, 117, 116], vI 1, vI 32, vI 1, vI 200, vB false, Value.func (.func 55) #[] #[Value.pointer (some ⟨B15, 0, none⟩)]]) 2 [vS [112, 117, 116], vI 1, vI 32, vI 1, vI 200, vB false, Value.func (.func 55) #[] #[Value.pointer (some ⟨B15, 0, none⟩)]] [Ent.mp vI M14 (R47.entries B15), Ent.blk B15 26 [Value.func (.func 53) #[] #[]], Ent.blk b13 61 [vS [112, 117, 116], vI 1, vI 32, vI 1, vI 200, vB false, Value.func (.func 55) #[] #[Value.pointer (some ⟨B15, 0, none⟩)]], Ent.blk b1 23 (Change.enc c)] rfl rfl rfl Ty.sz61 rfl (Nat.le_of_ble_eq_true rfl) rfl rfl rfl ?_)
          exact JA_done (by kernel_rfl) (fun _ h => ⟨h.keep [false, false, false, false] rfl, fun hh => Bool.noConfusion (show false = true from hh)⟩) (JX_weaken (E' := [(1, Value.pointer (some ⟨b1, 0, none⟩)), (2, vS []), (3, Value.pointer (some ⟨b13, 0, none⟩))]) (L' := [Ent.blk b13 61 [vS [112, 117, 116], vI 1, vI 32, vI 1, vI 200, vB false, Value.func (.func 55) #[] #[Value.pointer (some ⟨B15, 0, none⟩)]], Ent.blk B15 26 [Value.func (.func 53) #[] #[]], Ent.blk b1 23 (Change.enc c)]) ⟨rfl, rfl, rfl, trivial⟩ (fun _ h => (((h.front 3 _ rfl).front 2 _ rfl).front 3 _ rfl).keep [true, true, true, false] rfl) (key4 (b13, B15)))
  · refine J_seq ?_
    refine J_region ?_
    refine JO_op rfl trivial (O_box rfl rfl fun b16 => ?_)
    refine JO_read (vS []) rfl trivial (fun _ _ => rfl) ?_
    refine JO_nil ?_
    refine JX_then ?_
    refine J_seq ?_
    refine J_seq ?_
    refine J_region ?_
    refine JO_read (Value.agg ((Change.enc c)).toArray) rfl trivial (x_loadN 0 (Change.enc c) rfl rfl Ty.ag23 Ty.sz23 rfl) ?_
    refine JO_call [] [] [Ent.blk b16 23 (Change.enc c)] rfl trivial (fun _ => x_call Ty.ca11 rfl) (fun _ h => h) (fun _ h => by cases h) (fun w hS => f11_ok c w hy_) ?_
    rintro _ _ ⟨rfl, rfl⟩
    refine JO_read (vB (!(R47.valid c))) rfl trivial (fun _ _ => x_not rfl) ?_
    refine JO_nil ?_
    refine JX_then ?_
    refine J_cond (!(R47.valid c)) rfl rfl (fun h17 => ?_) (fun h17 => ?_)
    · have h17 : (R47.valid c) = false := bnot_true h17
      refine J_seq ?_
      refine J_region ?_
      refine JO_read (vS []) rfl trivial (fun _ _ => rfl) ?_
      refine JO_nil ?_
      refine JX_then ?_
      refine J_ret ?_
      refine JX_then_ret ?_
      refine JX_rets [vS []] (vS []) Tryd.results13 (fun w h => ⟨rfl, trivial⟩) rfl [] (fun _ h => h.keep [false] rfl) ⟨?_, ?_⟩
      · have e_x0 : ([] : Bytes) = (R47.text c) := by
          first | exact (R47.text_no (by assumption)).symm | exact (R47.text0 (by assumption) (by omega)).symm | exact (R47.rtext0 (by assumption) (by omega)).symm | exact (R47.text1 (by assumption) (by omega)).symm | exact (R47.rtext1 (by assumption) (by omega)).symm | exact (R47.text2 (by assumption) (by omega)).symm | exact (R47.rtext2 (by assumption) (by omega)).symm | exact (R47.text3 (by assumption) (by omega)).symm | exact (R47.rtext3 (by assumption) (by omega)).symm | exact (R47.text4 (by assumption) (by omega)).symm | exact (R47.rtext4 (by assumption) (by omega)).symm | exact (R47.text5 (by assumption) (by omega)).symm | exact (R47.rtext5 (by assumption) (by omega)).symm | exact (R47.text6 (by assumption) (by omega)).symm | exact (R47.rtext6 (by assumption) (by omega)).symm | exact (R47.text7 (by assumption) (by omega)).symm | exact (R47.rtext7 (by assumption) (by omega)).symm
        exact congrArg (fun (x0 : Bytes) => vS x0) e_x0
      · rfl
    · have h17 : (R47.valid c) = true := bnot_false h17
      have hi18 := R47.valid_facts h17
      refine J_skip ?_
      refine JX_then ?_
      refine J_seq ?_
      refine J_draw [] [5] [Ent.blk b16 23 (Change.enc c)] 6 Ty.mixed rfl ?_
      refine JA_take 1 (Value.pointer (some ⟨b16, 0, none⟩)) rfl (by kernel_rfl) (by kernel_rfl) (by kernel_rfl) rfl (fun _ _ _ h => h) rfl trivial (fun _ _ => x_fieldAddr Ty.fi23_0 rfl rfl) ?_
      refine JA_early 2 (vI c.Kind) rfl (by kernel_rfl) (by kernel_rfl) (by kernel_rfl) rfl (by kernel_rfl) (fun _ _ _ h => h) rfl trivial (x_load 0 rfl rfl Ty.sc3 rfl) ?_
      refine JA_finX (X := Nat) (fun b22 => [(1, Value.pointer (some ⟨b16, 0, none⟩)), (2, vS []), (3, Value.pointer (some ⟨b22, 0, none⟩))]) (fun b22 => [Ent.blk b22 61 [vS [101, 114, 97, 115, 101], vI 1, vI 32, vI 0, vI 0, vB false, Value.func (.func 57) #[] #[]], Ent.blk b16 23 (Change.enc c)]) ?_ (fun key19 => ?_)
      · rintro b22
        show JX _ _ _ _ _ [(1, Value.pointer (some ⟨b16, 0, none⟩)), (2, vS []), (3, Value.pointer (some ⟨b22, 0, none⟩))] [Ent.blk b22 61 [vS [101, 114, 97, 115, 101], vI 1, vI 32, vI 0, vI 0, vB false, Value.func (.func 57) #[] #[]], Ent.blk b16 23 (Change.enc c)]
        refine JX_then ?_
        refine J_seq ?_
        refine J_draw [Ent.blk b22 61 [vS [101, 114, 97, 115, 101], vI 1, vI 32, vI 0, vI 0, vB false, Value.func (.func 57) #[] #[]], Ent.blk b16 23 (Change.enc c)] [] [Ent.blk b22 61 [vS [101, 114, 97, 115, 101], vI 1, vI 32, vI 0, vI 0, vB false, Value.func (.func 57) #[] #[]], Ent.blk b16 23 (Change.enc c)] 8 Ty.mixed rfl ?_
        refine JA_take 0 (Value.pointer (some ⟨b22, 0, none⟩)) rfl (by kernel_rfl) (by kernel_rfl) (by kernel_rfl) rfl (fun _ _ _ h => h) rfl trivial (fun _ _ => x_fieldAddr Ty.fi61_0 rfl rfl) ?_
        refine JA_take 1 (vS [101, 114, 97, 115, 101]) rfl (by kernel_rfl) (by kernel_rfl) (by kernel_rfl) rfl (fun _ _ _ h => h) rfl trivial (x_load 0 rfl rfl Ty.sc9 rfl) ?_
        refine JA_take 2 (vS ([101, 114, 97, 115, 101] ++ [32])) rfl (by kernel_rfl) (by kernel_rfl) (by kernel_rfl) rfl (fun _ _ _ h => h) rfl trivial (fun _ _ => x_cat_s rfl rfl (by first | omega | (simp only [List.length_append, List.length_cons, List.length_nil]; omega) | (simp; omega) | (simp_all; omega))) ?_
        refine JA_take 3 (Value.pointer (some ⟨b16, 1, none⟩)) rfl (by kernel_rfl) (by kernel_rfl) (by kernel_rfl) rfl (fun _ _ _ h => h) rfl trivial (fun _ _ => x_fieldAddr Ty.fi23_1 rfl rfl) ?_
        refine JA_take 4 (vI c.Id) rfl (by kernel_rfl) (by kernel_rfl) (by kernel_rfl) rfl (fun _ _ _ h => h) rfl trivial (x_load 1 rfl rfl Ty.sc3 rfl) ?_
        refine JA_one 5 (by kernel_rfl) (fun _ h => ⟨h, fun _ => h⟩) ?_
        refine JI_call [] [] [Ent.blk b22 61 [vS [101, 114, 97, 115, 101], vI 1, vI 32, vI 0, vI 0, vB false, Value.func (.func 57) #[] #[]], Ent.blk b16 23 (Change.enc c)] rfl rfl trivial (fun _ => x_call Ty.ca38 rfl) (fun _ h => h) (fun _ h => by cases h) (fun w hS => itoa_ok c.Id w (hT.on hS (fun _ h => by cases h)) hy_ hy_) ?_
        rintro _ _ ⟨rfl, rfl⟩
        have ha20 := R47.dec_len c.Id (by omega)
        refine JA_take 6 (vS (([101, 114, 97, 115, 101] ++ [32]) ++ (Lib.decDigits c.Id.toNat))) rfl (by kernel_rfl) (by kernel_rfl) (by kernel_rfl) rfl (fun _ _ _ h => h) rfl trivial (fun _ _ => x_cat_s rfl rfl (by first | omega | (simp only [List.length_append, List.length_cons, List.length_nil]; omega) | (simp; omega) | (simp_all; omega))) ?_
        refine JA_take 7 (vS (([101, 114, 97, 115, 101] ++ [32]) ++ (Lib.decDigits c.Id.toNat))) rfl (by kernel_rfl) (by kernel_rfl) (by kernel_rfl) rfl (fun _ _ _ h => h) rfl trivial (fun _ _ => rfl) ?_
        refine JA_done (by kernel_rfl) (fun _ h => ⟨h, fun _ => h⟩) ?_
        refine JX_then ?_
        refine J_seq ?_
        refine J_seq ?_
        refine J_region ?_
        refine JO_read (Value.pointer (some ⟨b22, 6, none⟩)) rfl trivial (fun _ _ => x_fieldAddr Ty.fi61_4 rfl rfl) ?_
        refine JO_read (Value.func (.func 57) #[] #[]) rfl trivial (x_load 0 rfl rfl Ty.sc26 rfl) ?_
        refine JO_read (vB true) rfl trivial (fun _ _ => x_neq_fn rfl rfl Tryd.underlying26 rfl) ?_
        refine JO_nil ?_
        refine JX_then ?_
        refine J_cond true rfl rfl (fun h => ?_) (fun h => by cases h)
        refine J_region ?_
        refine JO_read (vS (([101, 114, 97, 115, 101] ++ [32]) ++ (Lib.decDigits c.Id.toNat))) rfl trivial (fun _ _ => rfl) ?_
        refine JO_read (Value.pointer (some ⟨b22, 6, none⟩)) rfl trivial (fun _ _ => x_fieldAddr Ty.fi61_4 rfl rfl) ?_
        refine JO_read (Value.func (.func 57) #[] #[]) rfl trivial (x_load 0 rfl rfl Ty.sc26 rfl) ?_
        refine JO_read (Value.agg ((Change.enc c)).toArray) rfl trivial (x_loadN 1 (Change.enc c) rfl rfl Ty.ag23 Ty.sz23 rfl) ?_
        refine JO_call [] [] [Ent.blk b22 61 [vS [101, 114, 97, 115, 101], vI 1, vI 32, vI 0, vI 0, vB false, Value.func (.func 57) #[] #[]], Ent.blk b16 23 (Change.enc c)] rfl trivial (fun _ => x_callv (first := []) (caps := []) rfl Ty.ca57 rfl) (fun _ h => h) (fun _ h => by cases h) (fun w hS => f57_ok c w hy_) ?_
        rintro _ _ ⟨rfl, rfl⟩
        have ha21 := R47.hex_length c.Key
        refine JO_read (vS ([32] ++ (R47.hex c.Key))) rfl trivial (fun _ _ => x_cat_s rfl rfl (by first | omega | (simp only [List.length_append, List.length_cons, List.length_nil]; omega) | (simp; omega) | (simp_all; omega))) ?_
        refine JO_read (vS ((([101, 114, 97, 115, 101] ++ [32]) ++ (Lib.decDigits c.Id.toNat)) ++ ([32] ++ (R47.hex c.Key)))) rfl trivial (fun _ _ => x_cat_s rfl rfl (by first | omega | (simp only [List.length_append, List.length_cons, List.length_nil]; omega) | (simp; omega) | (simp_all; omega))) ?_
        refine JO_read (vS ((([101, 114, 97, 115, 101] ++ [32]) ++ (Lib.decDigits c.Id.toNat)) ++ ([32] ++ (R47.hex c.Key)))) rfl trivial (fun _ _ => rfl) ?_
        refine JO_nil ?_
        refine JX_then ?_
        refine J_seq ?_
        refine J_region ?_
        refine JO_read (vS ((([101, 114, 97, 115, 101] ++ [32]) ++ (Lib.decDigits c.Id.toNat)) ++ ([32] ++ (R47.hex c.Key)))) rfl trivial (fun _ _ => rfl) ?_
        refine JO_read (vS ((([101, 114, 97, 115, 101] ++ [32]) ++ (Lib.decDigits c.Id.toNat)) ++ ([32] ++ (R47.hex c.Key)))) rfl trivial (fun _ _ => rfl) ?_
        refine JO_nil ?_
        refine JX_then ?_
        refine J_ret ?_
        refine JX_rets [vS ((([101, 114, 97, 115, 101] ++ [32]) ++ (Lib.decDigits c.Id.toNat)) ++ ([32] ++ (R47.hex c.Key)))] (vS ((([101, 114, 97, 115, 101] ++ [32]) ++ (Lib.decDigits c.Id.toNat)) ++ ([32] ++ (R47.hex c.Key)))) Tryd.results13 (fun w h => ⟨rfl, trivial⟩) rfl [] (fun _ h => h.keep [false, false] rfl) ⟨?_, ?_⟩
        · have e_x0 : ((([101, 114, 97, 115, 101] ++ [32]) ++ (Lib.decDigits c.Id.toNat)) ++ ([32] ++ (R47.hex c.Key)) : Bytes) = (R47.text c) := by
            first | exact (R47.text_no (by assumption)).symm | exact (R47.text0 (by assumption) (by omega)).symm | exact (R47.rtext0 (by assumption) (by omega)).symm | exact (R47.text1 (by assumption) (by omega)).symm | exact (R47.rtext1 (by assumption) (by omega)).symm | exact (R47.text2 (by assumption) (by omega)).symm | exact (R47.rtext2 (by assumption) (by omega)).symm | exact (R47.text3 (by assumption) (by omega)).symm | exact (R47.rtext3 (by assumption) (by omega)).symm | exact (R47.text4 (by assumption) (by omega)).symm | exact (R47.rtext4 (by assumption) (by omega)).symm | exact (R47.text5 (by assumption) (by omega)).symm | exact (R47.rtext5 (by assumption) (by omega)).symm | exact (R47.text6 (by assumption) (by omega)).symm | exact (R47.rtext6 (by assumption) (by omega)).symm | exact (R47.text7 (by assumption) (by omega)).symm | exact (R47.rtext7 (by assumption) (by omega)).symm
          exact congrArg (fun (x0 : Bytes) => vS x0) e_x0
        · rfl
      · refine JA_ready (rs := [0, 4]) (by kernel_rfl) (by decide) (fun _ h => ⟨h.keep [false] rfl, fun _ => h⟩) (List.forall_mem_cons.2 ⟨?_, (List.forall_mem_cons.2 ⟨?_, all_nil⟩)⟩)
        · refine JI_call [] [] [Ent.blk b16 23 (Change.enc c)] rfl rfl trivial (fun _ => x_call Ty.ca34 rfl) (fun _ h => h) (fun _ h => by cases h) (fun w hS => f34_ok w) ?_
          rintro _ _ ⟨M22, B23, rfl, rfl⟩
          refine JA_ready (rs := [3, 4]) (by kernel_rfl) (by decide) (fun _ h => ⟨h.keep [false, false, false] rfl, fun _ => h.keep [false, false, true] rfl⟩) (List.forall_mem_cons.2 ⟨?_, (List.forall_mem_cons.2 ⟨?_, all_nil⟩)⟩)
          · refine JI_read (Value.agg #[vS [101, 114, 97, 115, 101], vI 1, vI 32, vI 0, vI 0, vB false, Value.func (.func 57) #[] #[]]) rfl rfl trivial (x_lookup_v 0 (f := vI) (k := c.Kind) rfl rfl rfl Tryd.underlying63 (mapK_i Tryd.underlying3) Ty.ze61 (R47.look_at B23 (k := 1) hc (by decide)) rfl) ?_
            refine JA_one 4 (by kernel_rfl) (fun _ h => ⟨h.keep [false, false, false] rfl, fun _ => h.keep [false, false, true] rfl⟩) ?_
            refine JI_op rfl rfl trivial (O_alloc Ty.ze61 rfl fun b25 => ?_)
            refine JA_one 5 (by kernel_rfl) (fun _ h => ⟨h.keep [false, false, false, false] rfl, fun _ => h.keep [false, false, false, true] rfl⟩) ?_
            refine JI_op rfl rfl trivial (O_storeS (vs := [vS [101, 114, 97, 115, 101], vI 1, vI 32, vI 0, vI 0, vB false, Value.func (.func 57) #[] #[]]) 0 [vS [101, 114, 97, 115, 101], vI 1, vI 32, vI 0, vI 0, vB false, Value.func (.func 57) #[] #[]] [Ent.blk b25 61 [vS [101, 114, 97, 115, 101], vI 1, vI 32, vI 0, vI 0, vB false, Value.func (.func 57) #[] #[]], Ent.mp vI M22 (R47.entries B23), Ent.blk B23 26 [Value.func (.func 53) #[] #[]], Ent.blk b16 23 (Change.enc c)] rfl rfl rfl Ty.sz61 rfl (Nat.le_of_ble_eq_true rfl) rfl rfl rfl ?_)
            exact JA_done (by kernel_rfl) (fun _ h => ⟨h.keep [false, false, false, false] rfl, fun hh => Bool.noConfusion (show false = true from hh)⟩) (JX_weaken (E' := [(1, Value.pointer (some ⟨b16, 0, none⟩)), (2, vS []), (3, Value.pointer (some ⟨b25, 0, none⟩))]) (L' := [Ent.blk b25 61 [vS [101, 114, 97, 115, 101], vI 1, vI 32, vI 0, vI 0, vB false, Value.func (.func 57) #[] #[]], Ent.blk b16 23 (Change.enc c)]) ⟨rfl, rfl, rfl, trivial⟩ (fun _ h => h.keep [true, false, false, true] rfl) (key19 b25))
          · refine JI_op rfl rfl trivial (O_alloc Ty.ze61 rfl fun b26 => ?_)
            refine JA_one 3 (by kernel_rfl) (fun _ h => ⟨h.keep [false, false, false, false] rfl, fun _ => h.keep [false, false, false, true] rfl⟩) ?_
            refine JI_read (Value.agg #[vS [101, 114, 97, 115, 101], vI 1, vI 32, vI 0, vI 0, vB false, Value.func (.func 57) #[] #[]]) rfl rfl trivial (x_lookup_v 1 (f := vI) (k := c.Kind) rfl rfl rfl Tryd.underlying63 (mapK_i Tryd.underlying3) Ty.ze61 (R47.look_at B23 (k := 1) hc (by decide)) rfl) ?_
            refine JA_one 5 (by kernel_rfl) (fun _ h => ⟨h.keep [false, false, false, false] rfl, fun _ => h.keep [false, false, false, true] rfl⟩) ?_
            refine JI_op rfl rfl trivial (O_storeS (vs := [vS [101, 114, 97, 115, 101], vI 1, vI 32, vI 0, vI 0, vB false, Value.func (.func 57) #[] #[]]) 0 [vS [101, 114, 97, 115, 101], vI 1, vI 32, vI 0, vI 0, vB false, Value.func (.func 57) #[] #[]] [Ent.blk b26 61 [vS [101, 114, 97, 115, 101], vI 1, vI 32, vI 0, vI 0, vB false, Value.func (.func 57) #[] #[]], Ent.mp vI M22 (R47.entries B23), Ent.blk B23 26 [Value.func (.func 53) #[] #[]], Ent.blk b16 23 (Change.enc c)] rfl rfl rfl Ty.sz61 rfl (Nat.le_of_ble_eq_true rfl) rfl rfl rfl ?_)
            exact JA_done (by kernel_rfl) (fun _ h => ⟨h.keep [false, false, false, false] rfl, fun hh => Bool.noConfusion (show false = true from hh)⟩) (JX_weaken (E' := [(1, Value.pointer (some ⟨b16, 0, none⟩)), (2, vS []), (3, Value.pointer (some ⟨b26, 0, none⟩))]) (L' := [Ent.blk b26 61 [vS [101, 114, 97, 115, 101], vI 1, vI 32, vI 0, vI 0, vB false, Value.func (.func 57) #[] #[]], Ent.blk b16 23 (Change.enc c)]) ⟨rfl, rfl, rfl, trivial⟩ (fun _ h => h.keep [true, false, false, true] rfl) (key19 b26))
        · refine JI_op rfl rfl trivial (O_alloc Ty.ze61 rfl fun b27 => ?_)
          refine JA_one 0 (by kernel_rfl) (fun _ h => ⟨h.keep [false, false] rfl, fun _ => h.keep [false, true] rfl⟩) ?_
          refine JI_call [] [] [Ent.blk b27 61 [vS [], vI 0, vI 0, vI 0, vI 0, vB false, Value.nilFunc], Ent.blk b16 23 (Change.enc c)] rfl rfl trivial (fun _ => x_call Ty.ca34 rfl) (fun _ h => h) (fun _ h => by cases h) (fun w hS => f34_ok w) ?_
          rintro _ _ ⟨M28, B29, rfl, rfl⟩
          refine JA_one 3 (by kernel_rfl) (fun _ h => ⟨h.keep [false, false, false, false] rfl, fun _ => h.keep [false, false, false, true] rfl⟩) ?_
          refine JI_read (Value.agg #[vS [101, 114, 97, 115, 101], vI 1, vI 32, vI 0, vI 0, vB false, Value.func (.func 57) #[] #[]]) rfl rfl trivial (x_lookup_v 0 (f := vI) (k := c.Kind) rfl rfl rfl Tryd.underlying63 (mapK_i Tryd.underlying3) Ty.ze61 (R47.look_at B29 (k := 1) hc (by decide)) rfl) ?_
          refine JA_one 5 (by kernel_rfl) (fun _ h => ⟨h.keep [false, false, false, false] rfl, fun _ => h.keep [false, false, false, true] rfl⟩) ?_
          refine JI_op rfl rfl trivial (O_storeS (vs := [vS [101, 114, 97, 115, 101], vI 1, vI 32, vI 0, vI 0, vB false, Value.func (.func 57) #[] #[]]) 2 [vS [101, 114, 97, 115, 101], vI 1, vI 32, vI 0, vI 0, vB false, Value.func (.func 57) #[] #[]] [Ent.mp vI M28 (R47.entries B29), Ent.blk B29 26 [Value.func (.func 53) #[] #[]], Ent.blk b27 61 [vS [101, 114, 97, 115, 101], vI 1, vI 32, vI 0, vI 0, vB false, Value.func (.func 57) #[] #[]], Ent.blk b16 23 (Change.enc c)] rfl rfl rfl Ty.sz61 rfl (Nat.le_of_ble_eq_true rfl) rfl rfl rfl ?_)
          exact JA_done (by kernel_rfl) (fun _ h => ⟨h.keep [false, false, false, false] rfl, fun hh => Bool.noConfusion (show false = true from hh)⟩) (JX_weaken (E' := [(1, Value.pointer (some ⟨b16, 0, none⟩)), (2, vS []), (3, Value.pointer (some ⟨b27, 0, none⟩))]) (L' := [Ent.blk b27 61 [vS [101, 114, 97, 115, 101], vI 1, vI 32, vI 0, vI 0, vB false, Value.func (.func 57) #[] #[]], Ent.blk b16 23 (Change.enc c)]) ⟨rfl, rfl, rfl, trivial⟩ (fun _ h => h.keep [false, false, true, true] rfl) (key19 b27))
  · refine J_seq ?_
    refine J_region ?_
    refine JO_op rfl trivial (O_box rfl rfl fun b30 => ?_)
    refine JO_read (vS []) rfl trivial (fun _ _ => rfl) ?_
    refine JO_nil ?_
    refine JX_then ?_
    refine J_seq ?_
    refine J_seq ?_
    refine J_region ?_
    refine JO_read (Value.agg ((Change.enc c)).toArray) rfl trivial (x_loadN 0 (Change.enc c) rfl rfl Ty.ag23 Ty.sz23 rfl) ?_
    refine JO_call [] [] [Ent.blk b30 23 (Change.enc c)] rfl trivial (fun _ => x_call Ty.ca11 rfl) (fun _ h => h) (fun _ h => by cases h) (fun w hS => f11_ok c w hy_) ?_
    rintro _ _ ⟨rfl, rfl⟩
    refine JO_read (vB (!(R47.valid c))) rfl trivial (fun _ _ => x_not rfl) ?_
    refine JO_nil ?_
    refine JX_then ?_
    refine J_cond (!(R47.valid c)) rfl rfl (fun h31 => ?_) (fun h31 => ?_)
    · have h31 : (R47.valid c) = false := bnot_true h31
      refine J_seq ?_
      refine J_region ?_
      refine JO_read (vS []) rfl trivial (fun _ _ => rfl) ?_
      refine JO_nil ?_
      refine JX_then ?_
      refine J_ret ?_
      refine JX_then_ret ?_
      refine JX_rets [vS []] (vS []) Tryd.results13 (fun w h => ⟨rfl, trivial⟩) rfl [] (fun _ h => h.keep [false] rfl) ⟨?_, ?_⟩
      · have e_x0 : ([] : Bytes) = (R47.text c) := by
          first | exact (R47.text_no (by assumption)).symm | exact (R47.text0 (by assumption) (by omega)).symm | exact (R47.rtext0 (by assumption) (by omega)).symm | exact (R47.text1 (by assumption) (by omega)).symm | exact (R47.rtext1 (by assumption) (by omega)).symm | exact (R47.text2 (by assumption) (by omega)).symm | exact (R47.rtext2 (by assumption) (by omega)).symm | exact (R47.text3 (by assumption) (by omega)).symm | exact (R47.rtext3 (by assumption) (by omega)).symm | exact (R47.text4 (by assumption) (by omega)).symm | exact (R47.rtext4 (by assumption) (by omega)).symm | exact (R47.text5 (by assumption) (by omega)).symm | exact (R47.rtext5 (by assumption) (by omega)).symm | exact (R47.text6 (by assumption) (by omega)).symm | exact (R47.rtext6 (by assumption) (by omega)).symm | exact (R47.text7 (by assumption) (by omega)).symm | exact (R47.rtext7 (by assumption) (by omega)).symm
        exact congrArg (fun (x0 : Bytes) => vS x0) e_x0
      · rfl
    · have h31 : (R47.valid c) = true := bnot_false h31
      have hi32 := R47.valid_facts h31
      refine J_skip ?_
      refine JX_then ?_
      refine J_seq ?_
      refine J_draw [] [5] [Ent.blk b30 23 (Change.enc c)] 6 Ty.mixed rfl ?_
      refine JA_take 1 (Value.pointer (some ⟨b30, 0, none⟩)) rfl (by kernel_rfl) (by kernel_rfl) (by kernel_rfl) rfl (fun _ _ _ h => h) rfl trivial (fun _ _ => x_fieldAddr Ty.fi23_0 rfl rfl) ?_
      refine JA_early 2 (vI c.Kind) rfl (by kernel_rfl) (by kernel_rfl) (by kernel_rfl) rfl (by kernel_rfl) (fun _ _ _ h => h) rfl trivial (x_load 0 rfl rfl Ty.sc3 rfl) ?_
      refine JA_finX (X := Nat) (fun b36 => [(1, Value.pointer (some ⟨b30, 0, none⟩)), (2, vS []), (3, Value.pointer (some ⟨b36, 0, none⟩))]) (fun b36 => [Ent.blk b36 61 [vS [97, 112, 112, 101, 110, 100], vI 0, vI 0, vI 0, vI 1000, vB false, Value.func (.func 53) #[] #[]], Ent.blk b30 23 (Change.enc c)]) ?_ (fun key33 => ?_)
      · rintro b36
        show JX _ _ _ _ _ [(1, Value.pointer (some ⟨b30, 0, none⟩)), (2, vS []), (3, Value.pointer (some ⟨b36, 0, none⟩))] [Ent.blk b36 61 [vS [97, 112, 112, 101, 110, 100], vI 0, vI 0, vI 0, vI 1000, vB false, Value.func (.func 53) #[] #[]], Ent.blk b30 23 (Change.enc c)]
        refine JX_then ?_
        refine J_seq ?_
        refine J_draw [Ent.blk b36 61 [vS [97, 112, 112, 101, 110, 100], vI 0, vI 0, vI 0, vI 1000, vB false, Value.func (.func 53) #[] #[]], Ent.blk b30 23 (Change.enc c)] [] [Ent.blk b36 61 [vS [97, 112, 112, 101, 110, 100], vI 0, vI 0, vI 0, vI 1000, vB false, Value.func (.func 53) #[] #[]], Ent.blk b30 23 (Change.enc c)] 8 Ty.mixed rfl ?_
        refine JA_take 0 (Value.pointer (some ⟨b36, 0, none⟩)) rfl (by kernel_rfl) (by kernel_rfl) (by kernel_rfl) rfl (fun _ _ _ h => h) rfl trivial (fun _ _ => x_fieldAddr Ty.fi61_0 rfl rfl) ?_
        refine JA_take 1 (vS [97, 112, 112, 101, 110, 100]) rfl (by kernel_rfl) (by kernel_rfl) (by kernel_rfl) rfl (fun _ _ _ h => h) rfl trivial (x_load 0 rfl rfl Ty.sc9 rfl) ?_
        refine JA_take 2 (vS ([97, 112, 112, 101, 110, 100] ++ [32])) rfl (by kernel_rfl) (by kernel_rfl) (by kernel_rfl) rfl (fun _ _ _ h => h) rfl trivial (fun _ _ => x_cat_s rfl rfl (by first | omega | (simp only [List.length_append, List.length_cons, List.length_nil]; omega) | (simp; omega) | (simp_all; omega))) ?_
        refine JA_take 3 (Value.pointer (some ⟨b30, 1, none⟩)) rfl (by kernel_rfl) (by kernel_rfl) (by kernel_rfl) rfl (fun _ _ _ h => h) rfl trivial (fun _ _ => x_fieldAddr Ty.fi23_1 rfl rfl) ?_
        refine JA_take 4 (vI c.Id) rfl (by kernel_rfl) (by kernel_rfl) (by kernel_rfl) rfl (fun _ _ _ h => h) rfl trivial (x_load 1 rfl rfl Ty.sc3 rfl) ?_
        refine JA_one 5 (by kernel_rfl) (fun _ h => ⟨h, fun _ => h⟩) ?_
        refine JI_call [] [] [Ent.blk b36 61 [vS [97, 112, 112, 101, 110, 100], vI 0, vI 0, vI 0, vI 1000, vB false, Value.func (.func 53) #[] #[]], Ent.blk b30 23 (Change.enc c)] rfl rfl trivial (fun _ => x_call Ty.ca38 rfl) (fun _ h => h) (fun _ h => by cases h) (fun w hS => itoa_ok c.Id w (hT.on hS (fun _ h => by cases h)) hy_ hy_) ?_
        rintro _ _ ⟨rfl, rfl⟩
        have ha34 := R47.dec_len c.Id (by omega)
        refine JA_take 6 (vS (([97, 112, 112, 101, 110, 100] ++ [32]) ++ (Lib.decDigits c.Id.toNat))) rfl (by kernel_rfl) (by kernel_rfl) (by kernel_rfl) rfl (fun _ _ _ h => h) rfl trivial (fun _ _ => x_cat_s rfl rfl (by first | omega | (simp only [List.length_append, List.length_cons, List.length_nil]; omega) | (simp; omega) | (simp_all; omega))) ?_
        refine JA_take 7 (vS (([97, 112, 112, 101, 110, 100] ++ [32]) ++ (Lib.decDigits c.Id.toNat))) rfl (by kernel_rfl) (by kernel_rfl) (by kernel_rfl) rfl (fun _ _ _ h => h) rfl trivial (fun _ _ => rfl) ?_
        refine JA_done (by kernel_rfl) (fun _ h => ⟨h, fun _ => h⟩) ?_
        refine JX_then ?_
        refine J_seq ?_
        refine J_seq ?_
        refine J_region ?_
        refine JO_read (Value.pointer (some ⟨b36, 6, none⟩)) rfl trivial (fun _ _ => x_fieldAddr Ty.fi61_4 rfl rfl) ?_
        refine JO_read (Value.func (.func 53) #[] #[]) rfl trivial (x_load 0 rfl rfl Ty.sc26 rfl) ?_
        refine JO_read (vB true) rfl trivial (fun _ _ => x_neq_fn rfl rfl Tryd.underlying26 rfl) ?_
        refine JO_nil ?_
        refine JX_then ?_
        refine J_cond true rfl rfl (fun h => ?_) (fun h => by cases h)
        refine J_region ?_
        refine JO_read (vS (([97, 112, 112, 101, 110, 100] ++ [32]) ++ (Lib.decDigits c.Id.toNat))) rfl trivial (fun _ _ => rfl) ?_
        refine JO_read (Value.pointer (some ⟨b36, 6, none⟩)) rfl trivial (fun _ _ => x_fieldAddr Ty.fi61_4 rfl rfl) ?_
        refine JO_read (Value.func (.func 53) #[] #[]) rfl trivial (x_load 0 rfl rfl Ty.sc26 rfl) ?_
        refine JO_read (Value.agg ((Change.enc c)).toArray) rfl trivial (x_loadN 1 (Change.enc c) rfl rfl Ty.ag23 Ty.sz23 rfl) ?_
        refine JO_call [] [] [Ent.blk b36 61 [vS [97, 112, 112, 101, 110, 100], vI 0, vI 0, vI 0, vI 1000, vB false, Value.func (.func 53) #[] #[]], Ent.blk b30 23 (Change.enc c)] rfl trivial (fun _ => x_callv (first := []) (caps := []) rfl Ty.ca53 rfl) (fun _ h => h) (fun _ h => by cases h) (fun w hS => f53_ok c w (hT.on hS (fun _ h => by cases h)) hy_) ?_
        rintro _ _ ⟨rfl, rfl⟩
        have ha35 := R47.dec_lenN c.Record.length (by omega)
        refine JO_read (vS ([32] ++ (Lib.decDigits c.Record.length))) rfl trivial (fun _ _ => x_cat_s rfl rfl (by first | omega | (simp only [List.length_append, List.length_cons, List.length_nil]; omega) | (simp; omega) | (simp_all; omega))) ?_
        refine JO_read (vS ((([97, 112, 112, 101, 110, 100] ++ [32]) ++ (Lib.decDigits c.Id.toNat)) ++ ([32] ++ (Lib.decDigits c.Record.length)))) rfl trivial (fun _ _ => x_cat_s rfl rfl (by first | omega | (simp only [List.length_append, List.length_cons, List.length_nil]; omega) | (simp; omega) | (simp_all; omega))) ?_
        refine JO_read (vS ((([97, 112, 112, 101, 110, 100] ++ [32]) ++ (Lib.decDigits c.Id.toNat)) ++ ([32] ++ (Lib.decDigits c.Record.length)))) rfl trivial (fun _ _ => rfl) ?_
        refine JO_nil ?_
        refine JX_then ?_
        refine J_seq ?_
        refine J_region ?_
        refine JO_read (vS ((([97, 112, 112, 101, 110, 100] ++ [32]) ++ (Lib.decDigits c.Id.toNat)) ++ ([32] ++ (Lib.decDigits c.Record.length)))) rfl trivial (fun _ _ => rfl) ?_
        refine JO_read (vS ((([97, 112, 112, 101, 110, 100] ++ [32]) ++ (Lib.decDigits c.Id.toNat)) ++ ([32] ++ (Lib.decDigits c.Record.length)))) rfl trivial (fun _ _ => rfl) ?_
        refine JO_nil ?_
        refine JX_then ?_
        refine J_ret ?_
        refine JX_rets [vS ((([97, 112, 112, 101, 110, 100] ++ [32]) ++ (Lib.decDigits c.Id.toNat)) ++ ([32] ++ (Lib.decDigits c.Record.length)))] (vS ((([97, 112, 112, 101, 110, 100] ++ [32]) ++ (Lib.decDigits c.Id.toNat)) ++ ([32] ++ (Lib.decDigits c.Record.length)))) Tryd.results13 (fun w h => ⟨rfl, trivial⟩) rfl [] (fun _ h => h.keep [false, false] rfl) ⟨?_, ?_⟩
        · have e_x0 : ((([97, 112, 112, 101, 110, 100] ++ [32]) ++ (Lib.decDigits c.Id.toNat)) ++ ([32] ++ (Lib.decDigits c.Record.length)) : Bytes) = (R47.text c) := by
            first | exact (R47.text_no (by assumption)).symm | exact (R47.text0 (by assumption) (by omega)).symm | exact (R47.rtext0 (by assumption) (by omega)).symm | exact (R47.text1 (by assumption) (by omega)).symm | exact (R47.rtext1 (by assumption) (by omega)).symm | exact (R47.text2 (by assumption) (by omega)).symm | exact (R47.rtext2 (by assumption) (by omega)).symm | exact (R47.text3 (by assumption) (by omega)).symm | exact (R47.rtext3 (by assumption) (by omega)).symm | exact (R47.text4 (by assumption) (by omega)).symm | exact (R47.rtext4 (by assumption) (by omega)).symm | exact (R47.text5 (by assumption) (by omega)).symm | exact (R47.rtext5 (by assumption) (by omega)).symm | exact (R47.text6 (by assumption) (by omega)).symm | exact (R47.rtext6 (by assumption) (by omega)).symm | exact (R47.text7 (by assumption) (by omega)).symm | exact (R47.rtext7 (by assumption) (by omega)).symm
          exact congrArg (fun (x0 : Bytes) => vS x0) e_x0
        · rfl
      · refine JA_ready (rs := [0, 4]) (by kernel_rfl) (by decide) (fun _ h => ⟨h.keep [false] rfl, fun _ => h⟩) (List.forall_mem_cons.2 ⟨?_, (List.forall_mem_cons.2 ⟨?_, all_nil⟩)⟩)
        · refine JI_call [] [] [Ent.blk b30 23 (Change.enc c)] rfl rfl trivial (fun _ => x_call Ty.ca34 rfl) (fun _ h => h) (fun _ h => by cases h) (fun w hS => f34_ok w) ?_
          rintro _ _ ⟨M36, B37, rfl, rfl⟩
          refine JA_ready (rs := [3, 4]) (by kernel_rfl) (by decide) (fun _ h => ⟨h.keep [false, false, false] rfl, fun _ => h.keep [false, false, true] rfl⟩) (List.forall_mem_cons.2 ⟨?_, (List.forall_mem_cons.2 ⟨?_, all_nil⟩)⟩)
          · refine JI_read (Value.agg #[vS [97, 112, 112, 101, 110, 100], vI 0, vI 0, vI 0, vI 1000, vB false, Value.func (.func 53) #[] #[]]) rfl rfl trivial (x_lookup_v 0 (f := vI) (k := c.Kind) rfl rfl rfl Tryd.underlying63 (mapK_i Tryd.underlying3) Ty.ze61 (R47.look_at B37 (k := 2) hc (by decide)) rfl) ?_
            refine JA_one 4 (by kernel_rfl) (fun _ h => ⟨h.keep [false, false, false] rfl, fun _ => h.keep [false, false, true] rfl⟩) ?_
            refine JI_op rfl rfl trivial (O_alloc Ty.ze61 rfl fun b39 => ?_)
            refine JA_one 5 (by kernel_rfl) (fun _ h => ⟨h.keep [false, false, false, false] rfl, fun _ => h.keep [false, false, false, true] rfl⟩) ?_
            refine JI_op rfl rfl trivial (O_storeS (vs := [vS [97, 112, 112, 101, 110, 100], vI 0, vI 0, vI 0, vI 1000, vB false, Value.func (.func 53) #[] #[]]) 0 [vS [97, 112, 112, 101, 110, 100], vI 0, vI 0, vI 0, vI 1000, vB false, Value.func (.func 53) #[] #[]] [Ent.blk b39 61 [vS [97, 112, 112, 101, 110, 100], vI 0, vI 0, vI 0, vI 1000, vB false, Value.func (.func 53) #[] #[]], Ent.mp vI M36 (R47.entries B37), Ent.blk B37 26 [Value.func (.func 53) #[] #[]], Ent.blk b30 23 (Change.enc c)] rfl rfl rfl Ty.sz61 rfl (Nat.le_of_ble_eq_true rfl) rfl rfl rfl ?_)
            exact JA_done (by kernel_rfl) (fun _ h => ⟨h.keep [false, false, false, false] rfl, fun hh => Bool.noConfusion (show false = true from hh)⟩) (JX_weaken (E' := [(1, Value.pointer (some ⟨b30, 0, none⟩)), (2, vS []), (3, Value.pointer (some ⟨b39, 0, none⟩))]) (L' := [Ent.blk b39 61 [vS [97, 112, 112, 101, 110, 100], vI 0, vI 0, vI 0, vI 1000, vB false, Value.func (.func 53) #[] #[]], Ent.blk b30 23 (Change.enc c)]) ⟨rfl, rfl, rfl, trivial⟩ (fun _ h => h.keep [true, false, false, true] rfl) (key33 b39))
          · refine JI_op rfl rfl trivial (O_alloc Ty.ze61 rfl fun b40 => ?_)
            refine JA_one 3 (by kernel_rfl) (fun _ h => ⟨h.keep [false, false, false, false] rfl, fun _ => h.keep [false, false, false, true] rfl⟩) ?_
            refine JI_read (Value.agg #[vS [97, 112, 112, 101, 110, 100], vI 0, vI 0, vI 0, vI 1000, vB false, Value.func (.func 53) #[] #[]]) rfl rfl trivial (x_lookup_v 1 (f := vI) (k := c.Kind) rfl rfl rfl Tryd.underlying63 (mapK_i Tryd.underlying3) Ty.ze61 (R47.look_at B37 (k := 2) hc (by decide)) rfl) ?_
            refine JA_one 5 (by kernel_rfl) (fun _ h => ⟨h.keep [false, false, false, false] rfl, fun _ => h.keep [false, false, false, true] rfl⟩) ?_
            refine JI_op rfl rfl trivial (O_storeS (vs := [vS [97, 112, 112, 101, 110, 100], vI 0, vI 0, vI 0, vI 1000, vB false, Value.func (.func 53) #[] #[]]) 0 [vS [97, 112, 112, 101, 110, 100], vI 0, vI 0, vI 0, vI 1000, vB false, Value.func (.func 53) #[] #[]] [Ent.blk b40 61 [vS [97, 112, 112, 101, 110, 100], vI 0, vI 0, vI 0, vI 1000, vB false, Value.func (.func 53) #[] #[]], Ent.mp vI M36 (R47.entries B37), Ent.blk B37 26 [Value.func (.func 53) #[] #[]], Ent.blk b30 23 (Change.enc c)] rfl rfl rfl Ty.sz61 rfl (Nat.le_of_ble_eq_true rfl) rfl rfl rfl ?_)
            exact JA_done (by kernel_rfl) (fun _ h => ⟨h.keep [false, false, false, false] rfl, fun hh => Bool.noConfusion (show false = true from hh)⟩) (JX_weaken (E' := [(1, Value.pointer (some ⟨b30, 0, none⟩)), (2, vS []), (3, Value.pointer (some ⟨b40, 0, none⟩))]) (L' := [Ent.blk b40 61 [vS [97, 112, 112, 101, 110, 100], vI 0, vI 0, vI 0, vI 1000, vB false, Value.func (.func 53) #[] #[]], Ent.blk b30 23 (Change.enc c)]) ⟨rfl, rfl, rfl, trivial⟩ (fun _ h => h.keep [true, false, false, true] rfl) (key33 b40))
        · refine JI_op rfl rfl trivial (O_alloc Ty.ze61 rfl fun b41 => ?_)
          refine JA_one 0 (by kernel_rfl) (fun _ h => ⟨h.keep [false, false] rfl, fun _ => h.keep [false, true] rfl⟩) ?_
          refine JI_call [] [] [Ent.blk b41 61 [vS [], vI 0, vI 0, vI 0, vI 0, vB false, Value.nilFunc], Ent.blk b30 23 (Change.enc c)] rfl rfl trivial (fun _ => x_call Ty.ca34 rfl) (fun _ h => h) (fun _ h => by cases h) (fun w hS => f34_ok w) ?_
          rintro _ _ ⟨M42, B43, rfl, rfl⟩
          refine JA_one 3 (by kernel_rfl) (fun _ h => ⟨h.keep [false, false, false, false] rfl, fun _ => h.keep [false, false, false, true] rfl⟩) ?_
          refine JI_read (Value.agg #[vS [97, 112, 112, 101, 110, 100], vI 0, vI 0, vI 0, vI 1000, vB false, Value.func (.func 53) #[] #[]]) rfl rfl trivial (x_lookup_v 0 (f := vI) (k := c.Kind) rfl rfl rfl Tryd.underlying63 (mapK_i Tryd.underlying3) Ty.ze61 (R47.look_at B43 (k := 2) hc (by decide)) rfl) ?_
          refine JA_one 5 (by kernel_rfl) (fun _ h => ⟨h.keep [false, false, false, false] rfl, fun _ => h.keep [false, false, false, true] rfl⟩) ?_
          refine JI_op rfl rfl trivial (O_storeS (vs := [vS [97, 112, 112, 101, 110, 100], vI 0, vI 0, vI 0, vI 1000, vB false, Value.func (.func 53) #[] #[]]) 2 [vS [97, 112, 112, 101, 110, 100], vI 0, vI 0, vI 0, vI 1000, vB false, Value.func (.func 53) #[] #[]] [Ent.mp vI M42 (R47.entries B43), Ent.blk B43 26 [Value.func (.func 53) #[] #[]], Ent.blk b41 61 [vS [97, 112, 112, 101, 110, 100], vI 0, vI 0, vI 0, vI 1000, vB false, Value.func (.func 53) #[] #[]], Ent.blk b30 23 (Change.enc c)] rfl rfl rfl Ty.sz61 rfl (Nat.le_of_ble_eq_true rfl) rfl rfl rfl ?_)
          exact JA_done (by kernel_rfl) (fun _ h => ⟨h.keep [false, false, false, false] rfl, fun hh => Bool.noConfusion (show false = true from hh)⟩) (JX_weaken (E' := [(1, Value.pointer (some ⟨b30, 0, none⟩)), (2, vS []), (3, Value.pointer (some ⟨b41, 0, none⟩))]) (L' := [Ent.blk b41 61 [vS [97, 112, 112, 101, 110, 100], vI 0, vI 0, vI 0, vI 1000, vB false, Value.func (.func 53) #[] #[]], Ent.blk b30 23 (Change.enc c)]) ⟨rfl, rfl, rfl, trivial⟩ (fun _ h => h.keep [false, false, true, true] rfl) (key33 b41))
  · refine J_seq ?_
    refine J_region ?_
    refine JO_op rfl trivial (O_box rfl rfl fun b44 => ?_)
    refine JO_read (vS []) rfl trivial (fun _ _ => rfl) ?_
    refine JO_nil ?_
    refine JX_then ?_
    refine J_seq ?_
    refine J_seq ?_
    refine J_region ?_
    refine JO_read (Value.agg ((Change.enc c)).toArray) rfl trivial (x_loadN 0 (Change.enc c) rfl rfl Ty.ag23 Ty.sz23 rfl) ?_
    refine JO_call [] [] [Ent.blk b44 23 (Change.enc c)] rfl trivial (fun _ => x_call Ty.ca11 rfl) (fun _ h => h) (fun _ h => by cases h) (fun w hS => f11_ok c w hy_) ?_
    rintro _ _ ⟨rfl, rfl⟩
    refine JO_read (vB (!(R47.valid c))) rfl trivial (fun _ _ => x_not rfl) ?_
    refine JO_nil ?_
    refine JX_then ?_
    refine J_cond (!(R47.valid c)) rfl rfl (fun h45 => ?_) (fun h45 => ?_)
    · have h45 : (R47.valid c) = false := bnot_true h45
      refine J_seq ?_
      refine J_region ?_
      refine JO_read (vS []) rfl trivial (fun _ _ => rfl) ?_
      refine JO_nil ?_
      refine JX_then ?_
      refine J_ret ?_
      refine JX_then_ret ?_
      refine JX_rets [vS []] (vS []) Tryd.results13 (fun w h => ⟨rfl, trivial⟩) rfl [] (fun _ h => h.keep [false] rfl) ⟨?_, ?_⟩
      · have e_x0 : ([] : Bytes) = (R47.text c) := by
          first | exact (R47.text_no (by assumption)).symm | exact (R47.text0 (by assumption) (by omega)).symm | exact (R47.rtext0 (by assumption) (by omega)).symm | exact (R47.text1 (by assumption) (by omega)).symm | exact (R47.rtext1 (by assumption) (by omega)).symm | exact (R47.text2 (by assumption) (by omega)).symm | exact (R47.rtext2 (by assumption) (by omega)).symm | exact (R47.text3 (by assumption) (by omega)).symm | exact (R47.rtext3 (by assumption) (by omega)).symm | exact (R47.text4 (by assumption) (by omega)).symm | exact (R47.rtext4 (by assumption) (by omega)).symm | exact (R47.text5 (by assumption) (by omega)).symm | exact (R47.rtext5 (by assumption) (by omega)).symm | exact (R47.text6 (by assumption) (by omega)).symm | exact (R47.rtext6 (by assumption) (by omega)).symm | exact (R47.text7 (by assumption) (by omega)).symm | exact (R47.rtext7 (by assumption) (by omega)).symm
        exact congrArg (fun (x0 : Bytes) => vS x0) e_x0
      · rfl
    · have h45 : (R47.valid c) = true := bnot_false h45
      have hi46 := R47.valid_facts h45
      refine J_skip ?_
      refine JX_then ?_
      refine J_seq ?_
      refine J_draw [] [5] [Ent.blk b44 23 (Change.enc c)] 6 Ty.mixed rfl ?_
      refine JA_take 1 (Value.pointer (some ⟨b44, 0, none⟩)) rfl (by kernel_rfl) (by kernel_rfl) (by kernel_rfl) rfl (fun _ _ _ h => h) rfl trivial (fun _ _ => x_fieldAddr Ty.fi23_0 rfl rfl) ?_
      refine JA_early 2 (vI c.Kind) rfl (by kernel_rfl) (by kernel_rfl) (by kernel_rfl) rfl (by kernel_rfl) (fun _ _ _ h => h) rfl trivial (x_load 0 rfl rfl Ty.sc3 rfl) ?_
      refine JA_finX (X := Nat) (fun b50 => [(1, Value.pointer (some ⟨b44, 0, none⟩)), (2, vS []), (3, Value.pointer (some ⟨b50, 0, none⟩))]) (fun b50 => [Ent.blk b50 61 [vS [101, 109, 112, 116, 121], vI 0, vI 0, vI 0, vI 0, vB false, Value.nilFunc], Ent.blk b44 23 (Change.enc c)]) ?_ (fun key47 => ?_)
      · rintro b50
        show JX _ _ _ _ _ [(1, Value.pointer (some ⟨b44, 0, none⟩)), (2, vS []), (3, Value.pointer (some ⟨b50, 0, none⟩))] [Ent.blk b50 61 [vS [101, 109, 112, 116, 121], vI 0, vI 0, vI 0, vI 0, vB false, Value.nilFunc], Ent.blk b44 23 (Change.enc c)]
        refine JX_then ?_
        refine J_seq ?_
        refine J_draw [Ent.blk b50 61 [vS [101, 109, 112, 116, 121], vI 0, vI 0, vI 0, vI 0, vB false, Value.nilFunc], Ent.blk b44 23 (Change.enc c)] [] [Ent.blk b50 61 [vS [101, 109, 112, 116, 121], vI 0, vI 0, vI 0, vI 0, vB false, Value.nilFunc], Ent.blk b44 23 (Change.enc c)] 8 Ty.mixed rfl ?_
        refine JA_take 0 (Value.pointer (some ⟨b50, 0, none⟩)) rfl (by kernel_rfl) (by kernel_rfl) (by kernel_rfl) rfl (fun _ _ _ h => h) rfl trivial (fun _ _ => x_fieldAddr Ty.fi61_0 rfl rfl) ?_
        refine JA_take 1 (vS [101, 109, 112, 116, 121]) rfl (by kernel_rfl) (by kernel_rfl) (by kernel_rfl) rfl (fun _ _ _ h => h) rfl trivial (x_load 0 rfl rfl Ty.sc9 rfl) ?_
        refine JA_take 2 (vS ([101, 109, 112, 116, 121] ++ [32])) rfl (by kernel_rfl) (by kernel_rfl) (by kernel_rfl) rfl (fun _ _ _ h => h) rfl trivial (fun _ _ => x_cat_s rfl rfl (by first | omega | (simp only [List.length_append, List.length_cons, List.length_nil]; omega) | (simp; omega) | (simp_all; omega))) ?_
        refine JA_take 3 (Value.pointer (some ⟨b44, 1, none⟩)) rfl (by kernel_rfl) (by kernel_rfl) (by kernel_rfl) rfl (fun _ _ _ h => h) rfl trivial (fun _ _ => x_fieldAddr Ty.fi23_1 rfl rfl) ?_
        refine JA_take 4 (vI c.Id) rfl (by kernel_rfl) (by kernel_rfl) (by kernel_rfl) rfl (fun _ _ _ h => h) rfl trivial (x_load 1 rfl rfl Ty.sc3 rfl) ?_
        refine JA_one 5 (by kernel_rfl) (fun _ h => ⟨h, fun _ => h⟩) ?_
        refine JI_call [] [] [Ent.blk b50 61 [vS [101, 109, 112, 116, 121], vI 0, vI 0, vI 0, vI 0, vB false, Value.nilFunc], Ent.blk b44 23 (Change.enc c)] rfl rfl trivial (fun _ => x_call Ty.ca38 rfl) (fun _ h => h) (fun _ h => by cases h) (fun w hS => itoa_ok c.Id w (hT.on hS (fun _ h => by cases h)) hy_ hy_) ?_
        rintro _ _ ⟨rfl, rfl⟩
        have ha48 := R47.dec_len c.Id (by omega)
        refine JA_take 6 (vS (([101, 109, 112, 116, 121] ++ [32]) ++ (Lib.decDigits c.Id.toNat))) rfl (by kernel_rfl) (by kernel_rfl) (by kernel_rfl) rfl (fun _ _ _ h => h) rfl trivial (fun _ _ => x_cat_s rfl rfl (by first | omega | (simp only [List.length_append, List.length_cons, List.length_nil]; omega) | (simp; omega) | (simp_all; omega))) ?_
        refine JA_take 7 (vS (([101, 109, 112, 116, 121] ++ [32]) ++ (Lib.decDigits c.Id.toNat))) rfl (by kernel_rfl) (by kernel_rfl) (by kernel_rfl) rfl (fun _ _ _ h => h) rfl trivial (fun _ _ => rfl) ?_
        refine JA_done (by kernel_rfl) (fun _ h => ⟨h, fun _ => h⟩) ?_
        refine JX_then ?_
        refine J_seq ?_
        refine J_seq ?_
        refine J_region ?_
        refine JO_read (Value.pointer (some ⟨b50, 6, none⟩)) rfl trivial (fun _ _ => x_fieldAddr Ty.fi61_4 rfl rfl) ?_
        refine JO_read (Value.nilFunc) rfl trivial (x_load 0 rfl rfl Ty.sc26 rfl) ?_
        refine JO_read (vB false) rfl trivial (fun _ _ => x_neq_nil rfl rfl Tryd.underlying26) ?_
        refine JO_nil ?_
        refine JX_then ?_
        refine J_cond false rfl rfl (fun h => by cases h) (fun h => ?_)
        refine J_skip ?_
        refine JX_then ?_
        refine J_seq ?_
        refine J_region ?_
        refine JO_read (vS (([101, 109, 112, 116, 121] ++ [32]) ++ (Lib.decDigits c.Id.toNat))) rfl trivial (fun _ _ => rfl) ?_
        refine JO_read (vS (([101, 109, 112, 116, 121] ++ [32]) ++ (Lib.decDigits c.Id.toNat))) rfl trivial (fun _ _ => rfl) ?_
        refine JO_nil ?_
        refine JX_then ?_
        refine J_ret ?_
        refine JX_rets [vS (([101, 109, 112, 116, 121] ++ [32]) ++ (Lib.decDigits c.Id.toNat))] (vS (([101, 109, 112, 116, 121] ++ [32]) ++ (Lib.decDigits c.Id.toNat))) Tryd.results13 (fun w h => ⟨rfl, trivial⟩) rfl [] (fun _ h => h.keep [false, false] rfl) ⟨?_, ?_⟩
        · have e_x0 : (([101, 109, 112, 116, 121] ++ [32]) ++ (Lib.decDigits c.Id.toNat) : Bytes) = (R47.text c) := by
            first | exact (R47.text_no (by assumption)).symm | exact (R47.text0 (by assumption) (by omega)).symm | exact (R47.rtext0 (by assumption) (by omega)).symm | exact (R47.text1 (by assumption) (by omega)).symm | exact (R47.rtext1 (by assumption) (by omega)).symm | exact (R47.text2 (by assumption) (by omega)).symm | exact (R47.rtext2 (by assumption) (by omega)).symm | exact (R47.text3 (by assumption) (by omega)).symm | exact (R47.rtext3 (by assumption) (by omega)).symm | exact (R47.text4 (by assumption) (by omega)).symm | exact (R47.rtext4 (by assumption) (by omega)).symm | exact (R47.text5 (by assumption) (by omega)).symm | exact (R47.rtext5 (by assumption) (by omega)).symm | exact (R47.text6 (by assumption) (by omega)).symm | exact (R47.rtext6 (by assumption) (by omega)).symm | exact (R47.text7 (by assumption) (by omega)).symm | exact (R47.rtext7 (by assumption) (by omega)).symm
          exact congrArg (fun (x0 : Bytes) => vS x0) e_x0
        · rfl
      · refine JA_ready (rs := [0, 4]) (by kernel_rfl) (by decide) (fun _ h => ⟨h.keep [false] rfl, fun _ => h⟩) (List.forall_mem_cons.2 ⟨?_, (List.forall_mem_cons.2 ⟨?_, all_nil⟩)⟩)
        · refine JI_call [] [] [Ent.blk b44 23 (Change.enc c)] rfl rfl trivial (fun _ => x_call Ty.ca34 rfl) (fun _ h => h) (fun _ h => by cases h) (fun w hS => f34_ok w) ?_
          rintro _ _ ⟨M49, B50, rfl, rfl⟩
          refine JA_ready (rs := [3, 4]) (by kernel_rfl) (by decide) (fun _ h => ⟨h.keep [false, false, false] rfl, fun _ => h.keep [false, false, true] rfl⟩) (List.forall_mem_cons.2 ⟨?_, (List.forall_mem_cons.2 ⟨?_, all_nil⟩)⟩)
          · refine JI_read (Value.agg #[vS [101, 109, 112, 116, 121], vI 0, vI 0, vI 0, vI 0, vB false, Value.nilFunc]) rfl rfl trivial (x_lookup_v 0 (f := vI) (k := c.Kind) rfl rfl rfl Tryd.underlying63 (mapK_i Tryd.underlying3) Ty.ze61 (R47.look_at B50 (k := 3) hc (by decide)) rfl) ?_
            refine JA_one 4 (by kernel_rfl) (fun _ h => ⟨h.keep [false, false, false] rfl, fun _ => h.keep [false, false, true] rfl⟩) ?_
            refine JI_op rfl rfl trivial (O_alloc Ty.ze61 rfl fun b52 => ?_)
            refine JA_one 5 (by kernel_rfl) (fun _ h => ⟨h.keep [false, false, false, false] rfl, fun _ => h.keep [false, false, false, true] rfl⟩) ?_
            refine JI_op rfl rfl trivial (O_storeS (vs := [vS [101, 109, 112, 116, 121], vI 0, vI 0, vI 0, vI 0, vB false, Value.nilFunc]) 0 [vS [101, 109, 112, 116, 121], vI 0, vI 0, vI 0, vI 0, vB false, Value.nilFunc] [Ent.blk b52 61 [vS [101, 109, 112, 116, 121], vI 0, vI 0, vI 0, vI 0, vB false, Value.nilFunc], Ent.mp vI M49 (R47.entries B50), Ent.blk B50 26 [Value.func (.func 53) #[] #[]], Ent.blk b44 23 (Change.enc c)] rfl rfl rfl Ty.sz61 rfl (Nat.le_of_ble_eq_true rfl) rfl rfl rfl ?_)
            exact JA_done (by kernel_rfl) (fun _ h => ⟨h.keep [false, false, false, false] rfl, fun hh => Bool.noConfusion (show false = true from hh)⟩) (JX_weaken (E' := [(1, Value.pointer (some ⟨b44, 0, none⟩)), (2, vS []), (3, Value.pointer (some ⟨b52, 0, none⟩))]) (L' := [Ent.blk b52 61 [vS [101, 109, 112, 116, 121], vI 0, vI 0, vI 0, vI 0, vB false, Value.nilFunc], Ent.blk b44 23 (Change.enc c)]) ⟨rfl, rfl, rfl, trivial⟩ (fun _ h => h.keep [true, false, false, true] rfl) (key47 b52))
          · refine JI_op rfl rfl trivial (O_alloc Ty.ze61 rfl fun b53 => ?_)
            refine JA_one 3 (by kernel_rfl) (fun _ h => ⟨h.keep [false, false, false, false] rfl, fun _ => h.keep [false, false, false, true] rfl⟩) ?_
            refine JI_read (Value.agg #[vS [101, 109, 112, 116, 121], vI 0, vI 0, vI 0, vI 0, vB false, Value.nilFunc]) rfl rfl trivial (x_lookup_v 1 (f := vI) (k := c.Kind) rfl rfl rfl Tryd.underlying63 (mapK_i Tryd.underlying3) Ty.ze61 (R47.look_at B50 (k := 3) hc (by decide)) rfl) ?_
            refine JA_one 5 (by kernel_rfl) (fun _ h => ⟨h.keep [false, false, false, false] rfl, fun _ => h.keep [false, false, false, true] rfl⟩) ?_
            refine JI_op rfl rfl trivial (O_storeS (vs := [vS [101, 109, 112, 116, 121], vI 0, vI 0, vI 0, vI 0, vB false, Value.nilFunc]) 0 [vS [101, 109, 112, 116, 121], vI 0, vI 0, vI 0, vI 0, vB false, Value.nilFunc] [Ent.blk b53 61 [vS [101, 109, 112, 116, 121], vI 0, vI 0, vI 0, vI 0, vB false, Value.nilFunc], Ent.mp vI M49 (R47.entries B50), Ent.blk B50 26 [Value.func (.func 53) #[] #[]], Ent.blk b44 23 (Change.enc c)] rfl rfl rfl Ty.sz61 rfl (Nat.le_of_ble_eq_true rfl) rfl rfl rfl ?_)
            exact JA_done (by kernel_rfl) (fun _ h => ⟨h.keep [false, false, false, false] rfl, fun hh => Bool.noConfusion (show false = true from hh)⟩) (JX_weaken (E' := [(1, Value.pointer (some ⟨b44, 0, none⟩)), (2, vS []), (3, Value.pointer (some ⟨b53, 0, none⟩))]) (L' := [Ent.blk b53 61 [vS [101, 109, 112, 116, 121], vI 0, vI 0, vI 0, vI 0, vB false, Value.nilFunc], Ent.blk b44 23 (Change.enc c)]) ⟨rfl, rfl, rfl, trivial⟩ (fun _ h => h.keep [true, false, false, true] rfl) (key47 b53))
        · refine JI_op rfl rfl trivial (O_alloc Ty.ze61 rfl fun b54 => ?_)
          refine JA_one 0 (by kernel_rfl) (fun _ h => ⟨h.keep [false, false] rfl, fun _ => h.keep [false, true] rfl⟩) ?_
          refine JI_call [] [] [Ent.blk b54 61 [vS [], vI 0, vI 0, vI 0, vI 0, vB false, Value.nilFunc], Ent.blk b44 23 (Change.enc c)] rfl rfl trivial (fun _ => x_call Ty.ca34 rfl) (fun _ h => h) (fun _ h => by cases h) (fun w hS => f34_ok w) ?_
          rintro _ _ ⟨M55, B56, rfl, rfl⟩
          refine JA_one 3 (by kernel_rfl) (fun _ h => ⟨h.keep [false, false, false, false] rfl, fun _ => h.keep [false, false, false, true] rfl⟩) ?_
          refine JI_read (Value.agg #[vS [101, 109, 112, 116, 121], vI 0, vI 0, vI 0, vI 0, vB false, Value.nilFunc]) rfl rfl trivial (x_lookup_v 0 (f := vI) (k := c.Kind) rfl rfl rfl Tryd.underlying63 (mapK_i Tryd.underlying3) Ty.ze61 (R47.look_at B56 (k := 3) hc (by decide)) rfl) ?_
          refine JA_one 5 (by kernel_rfl) (fun _ h => ⟨h.keep [false, false, false, false] rfl, fun _ => h.keep [false, false, false, true] rfl⟩) ?_
          refine JI_op rfl rfl trivial (O_storeS (vs := [vS [101, 109, 112, 116, 121], vI 0, vI 0, vI 0, vI 0, vB false, Value.nilFunc]) 2 [vS [101, 109, 112, 116, 121], vI 0, vI 0, vI 0, vI 0, vB false, Value.nilFunc] [Ent.mp vI M55 (R47.entries B56), Ent.blk B56 26 [Value.func (.func 53) #[] #[]], Ent.blk b54 61 [vS [101, 109, 112, 116, 121], vI 0, vI 0, vI 0, vI 0, vB false, Value.nilFunc], Ent.blk b44 23 (Change.enc c)] rfl rfl rfl Ty.sz61 rfl (Nat.le_of_ble_eq_true rfl) rfl rfl rfl ?_)
          exact JA_done (by kernel_rfl) (fun _ h => ⟨h.keep [false, false, false, false] rfl, fun hh => Bool.noConfusion (show false = true from hh)⟩) (JX_weaken (E' := [(1, Value.pointer (some ⟨b44, 0, none⟩)), (2, vS []), (3, Value.pointer (some ⟨b54, 0, none⟩))]) (L' := [Ent.blk b54 61 [vS [101, 109, 112, 116, 121], vI 0, vI 0, vI 0, vI 0, vB false, Value.nilFunc], Ent.blk b44 23 (Change.enc c)]) ⟨rfl, rfl, rfl, trivial⟩ (fun _ h => h.keep [false, false, true, true] rfl) (key47 b54))
  · refine J_seq ?_
    refine J_region ?_
    refine JO_op rfl trivial (O_box rfl rfl fun b57 => ?_)
    refine JO_read (vS []) rfl trivial (fun _ _ => rfl) ?_
    refine JO_nil ?_
    refine JX_then ?_
    refine J_seq ?_
    refine J_seq ?_
    refine J_region ?_
    refine JO_read (Value.agg ((Change.enc c)).toArray) rfl trivial (x_loadN 0 (Change.enc c) rfl rfl Ty.ag23 Ty.sz23 rfl) ?_
    refine JO_call [] [] [Ent.blk b57 23 (Change.enc c)] rfl trivial (fun _ => x_call Ty.ca11 rfl) (fun _ h => h) (fun _ h => by cases h) (fun w hS => f11_ok c w hy_) ?_
    rintro _ _ ⟨rfl, rfl⟩
    refine JO_read (vB (!(R47.valid c))) rfl trivial (fun _ _ => x_not rfl) ?_
    refine JO_nil ?_
    refine JX_then ?_
    refine J_cond (!(R47.valid c)) rfl rfl (fun h58 => ?_) (fun h58 => ?_)
    · have h58 : (R47.valid c) = false := bnot_true h58
      refine J_seq ?_
      refine J_region ?_
      refine JO_read (vS []) rfl trivial (fun _ _ => rfl) ?_
      refine JO_nil ?_
      refine JX_then ?_
      refine J_ret ?_
      refine JX_then_ret ?_
      refine JX_rets [vS []] (vS []) Tryd.results13 (fun w h => ⟨rfl, trivial⟩) rfl [] (fun _ h => h.keep [false] rfl) ⟨?_, ?_⟩
      · have e_x0 : ([] : Bytes) = (R47.text c) := by
          first | exact (R47.text_no (by assumption)).symm | exact (R47.text0 (by assumption) (by omega)).symm | exact (R47.rtext0 (by assumption) (by omega)).symm | exact (R47.text1 (by assumption) (by omega)).symm | exact (R47.rtext1 (by assumption) (by omega)).symm | exact (R47.text2 (by assumption) (by omega)).symm | exact (R47.rtext2 (by assumption) (by omega)).symm | exact (R47.text3 (by assumption) (by omega)).symm | exact (R47.rtext3 (by assumption) (by omega)).symm | exact (R47.text4 (by assumption) (by omega)).symm | exact (R47.rtext4 (by assumption) (by omega)).symm | exact (R47.text5 (by assumption) (by omega)).symm | exact (R47.rtext5 (by assumption) (by omega)).symm | exact (R47.text6 (by assumption) (by omega)).symm | exact (R47.rtext6 (by assumption) (by omega)).symm | exact (R47.text7 (by assumption) (by omega)).symm | exact (R47.rtext7 (by assumption) (by omega)).symm
        exact congrArg (fun (x0 : Bytes) => vS x0) e_x0
      · rfl
    · have h58 : (R47.valid c) = true := bnot_false h58
      have hi59 := R47.valid_facts h58
      refine J_skip ?_
      refine JX_then ?_
      refine J_seq ?_
      refine J_draw [] [5] [Ent.blk b57 23 (Change.enc c)] 6 Ty.mixed rfl ?_
      refine JA_take 1 (Value.pointer (some ⟨b57, 0, none⟩)) rfl (by kernel_rfl) (by kernel_rfl) (by kernel_rfl) rfl (fun _ _ _ h => h) rfl trivial (fun _ _ => x_fieldAddr Ty.fi23_0 rfl rfl) ?_
      refine JA_early 2 (vI c.Kind) rfl (by kernel_rfl) (by kernel_rfl) (by kernel_rfl) rfl (by kernel_rfl) (fun _ _ _ h => h) rfl trivial (x_load 0 rfl rfl Ty.sc3 rfl) ?_
      refine JA_finX (X := Nat) (fun b63 => [(1, Value.pointer (some ⟨b57, 0, none⟩)), (2, vS []), (3, Value.pointer (some ⟨b63, 0, none⟩))]) (fun b63 => [Ent.blk b63 61 [vS [99, 114, 101, 97, 116, 101], vI 0, vI 0, vI 0, vI 400, vB true, Value.func (.func 54) #[] #[]], Ent.blk b57 23 (Change.enc c)]) ?_ (fun key60 => ?_)
      · rintro b63
        show JX _ _ _ _ _ [(1, Value.pointer (some ⟨b57, 0, none⟩)), (2, vS []), (3, Value.pointer (some ⟨b63, 0, none⟩))] [Ent.blk b63 61 [vS [99, 114, 101, 97, 116, 101], vI 0, vI 0, vI 0, vI 400, vB true, Value.func (.func 54) #[] #[]], Ent.blk b57 23 (Change.enc c)]
        refine JX_then ?_
        refine J_seq ?_
        refine J_draw [Ent.blk b63 61 [vS [99, 114, 101, 97, 116, 101], vI 0, vI 0, vI 0, vI 400, vB true, Value.func (.func 54) #[] #[]], Ent.blk b57 23 (Change.enc c)] [] [Ent.blk b63 61 [vS [99, 114, 101, 97, 116, 101], vI 0, vI 0, vI 0, vI 400, vB true, Value.func (.func 54) #[] #[]], Ent.blk b57 23 (Change.enc c)] 8 Ty.mixed rfl ?_
        refine JA_take 0 (Value.pointer (some ⟨b63, 0, none⟩)) rfl (by kernel_rfl) (by kernel_rfl) (by kernel_rfl) rfl (fun _ _ _ h => h) rfl trivial (fun _ _ => x_fieldAddr Ty.fi61_0 rfl rfl) ?_
        refine JA_take 1 (vS [99, 114, 101, 97, 116, 101]) rfl (by kernel_rfl) (by kernel_rfl) (by kernel_rfl) rfl (fun _ _ _ h => h) rfl trivial (x_load 0 rfl rfl Ty.sc9 rfl) ?_
        refine JA_take 2 (vS ([99, 114, 101, 97, 116, 101] ++ [32])) rfl (by kernel_rfl) (by kernel_rfl) (by kernel_rfl) rfl (fun _ _ _ h => h) rfl trivial (fun _ _ => x_cat_s rfl rfl (by first | omega | (simp only [List.length_append, List.length_cons, List.length_nil]; omega) | (simp; omega) | (simp_all; omega))) ?_
        refine JA_take 3 (Value.pointer (some ⟨b57, 1, none⟩)) rfl (by kernel_rfl) (by kernel_rfl) (by kernel_rfl) rfl (fun _ _ _ h => h) rfl trivial (fun _ _ => x_fieldAddr Ty.fi23_1 rfl rfl) ?_
        refine JA_take 4 (vI c.Id) rfl (by kernel_rfl) (by kernel_rfl) (by kernel_rfl) rfl (fun _ _ _ h => h) rfl trivial (x_load 1 rfl rfl Ty.sc3 rfl) ?_
        refine JA_one 5 (by kernel_rfl) (fun _ h => ⟨h, fun _ => h⟩) ?_
        refine JI_call [] [] [Ent.blk b63 61 [vS [99, 114, 101, 97, 116, 101], vI 0, vI 0, vI 0, vI 400, vB true, Value.func (.func 54) #[] #[]], Ent.blk b57 23 (Change.enc c)] rfl rfl trivial (fun _ => x_call Ty.ca38 rfl) (fun _ h => h) (fun _ h => by cases h) (fun w hS => itoa_ok c.Id w (hT.on hS (fun _ h => by cases h)) hy_ hy_) ?_
        rintro _ _ ⟨rfl, rfl⟩
        have ha61 := R47.dec_len c.Id (by omega)
        refine JA_take 6 (vS (([99, 114, 101, 97, 116, 101] ++ [32]) ++ (Lib.decDigits c.Id.toNat))) rfl (by kernel_rfl) (by kernel_rfl) (by kernel_rfl) rfl (fun _ _ _ h => h) rfl trivial (fun _ _ => x_cat_s rfl rfl (by first | omega | (simp only [List.length_append, List.length_cons, List.length_nil]; omega) | (simp; omega) | (simp_all; omega))) ?_
        refine JA_take 7 (vS (([99, 114, 101, 97, 116, 101] ++ [32]) ++ (Lib.decDigits c.Id.toNat))) rfl (by kernel_rfl) (by kernel_rfl) (by kernel_rfl) rfl (fun _ _ _ h => h) rfl trivial (fun _ _ => rfl) ?_
        refine JA_done (by kernel_rfl) (fun _ h => ⟨h, fun _ => h⟩) ?_
        refine JX_then ?_
        refine J_seq ?_
        refine J_seq ?_
        refine J_region ?_
        refine JO_read (Value.pointer (some ⟨b63, 6, none⟩)) rfl trivial (fun _ _ => x_fieldAddr Ty.fi61_4 rfl rfl) ?_
        refine JO_read (Value.func (.func 54) #[] #[]) rfl trivial (x_load 0 rfl rfl Ty.sc26 rfl) ?_
        refine JO_read (vB true) rfl trivial (fun _ _ => x_neq_fn rfl rfl Tryd.underlying26 rfl) ?_
        refine JO_nil ?_
        refine JX_then ?_
        refine J_cond true rfl rfl (fun h => ?_) (fun h => by cases h)
        refine J_region ?_
        refine JO_read (vS (([99, 114, 101, 97, 116, 101] ++ [32]) ++ (Lib.decDigits c.Id.toNat))) rfl trivial (fun _ _ => rfl) ?_
        refine JO_read (Value.pointer (some ⟨b63, 6, none⟩)) rfl trivial (fun _ _ => x_fieldAddr Ty.fi61_4 rfl rfl) ?_
        refine JO_read (Value.func (.func 54) #[] #[]) rfl trivial (x_load 0 rfl rfl Ty.sc26 rfl) ?_
        refine JO_read (Value.agg ((Change.enc c)).toArray) rfl trivial (x_loadN 1 (Change.enc c) rfl rfl Ty.ag23 Ty.sz23 rfl) ?_
        refine JO_call [] [] [Ent.blk b63 61 [vS [99, 114, 101, 97, 116, 101], vI 0, vI 0, vI 0, vI 400, vB true, Value.func (.func 54) #[] #[]], Ent.blk b57 23 (Change.enc c)] rfl trivial (fun _ => x_callv (first := []) (caps := []) rfl Ty.ca54 rfl) (fun _ h => h) (fun _ h => by cases h) (fun w hS => f54_ok c w) ?_
        rintro _ _ ⟨rfl, rfl⟩
        refine JO_read (vS ([32] ++ c.Volume)) rfl trivial (fun _ _ => x_cat_s rfl rfl (by first | omega | (simp only [List.length_append, List.length_cons, List.length_nil]; omega) | (simp; omega) | (simp_all; omega))) ?_
        refine JO_read (vS ((([99, 114, 101, 97, 116, 101] ++ [32]) ++ (Lib.decDigits c.Id.toNat)) ++ ([32] ++ c.Volume))) rfl trivial (fun _ _ => x_cat_s rfl rfl (by first | omega | (simp only [List.length_append, List.length_cons, List.length_nil]; omega) | (simp; omega) | (simp_all; omega))) ?_
        refine JO_read (vS ((([99, 114, 101, 97, 116, 101] ++ [32]) ++ (Lib.decDigits c.Id.toNat)) ++ ([32] ++ c.Volume))) rfl trivial (fun _ _ => rfl) ?_
        refine JO_nil ?_
        refine JX_then ?_
        refine J_seq ?_
        refine J_region ?_
        refine JO_read (vS ((([99, 114, 101, 97, 116, 101] ++ [32]) ++ (Lib.decDigits c.Id.toNat)) ++ ([32] ++ c.Volume))) rfl trivial (fun _ _ => rfl) ?_
        refine JO_read (vS ((([99, 114, 101, 97, 116, 101] ++ [32]) ++ (Lib.decDigits c.Id.toNat)) ++ ([32] ++ c.Volume))) rfl trivial (fun _ _ => rfl) ?_
        refine JO_nil ?_
        refine JX_then ?_
        refine J_ret ?_
        refine JX_rets [vS ((([99, 114, 101, 97, 116, 101] ++ [32]) ++ (Lib.decDigits c.Id.toNat)) ++ ([32] ++ c.Volume))] (vS ((([99, 114, 101, 97, 116, 101] ++ [32]) ++ (Lib.decDigits c.Id.toNat)) ++ ([32] ++ c.Volume))) Tryd.results13 (fun w h => ⟨rfl, trivial⟩) rfl [] (fun _ h => h.keep [false, false] rfl) ⟨?_, ?_⟩
        · have e_x0 : ((([99, 114, 101, 97, 116, 101] ++ [32]) ++ (Lib.decDigits c.Id.toNat)) ++ ([32] ++ c.Volume) : Bytes) = (R47.text c) := by
            first | exact (R47.text_no (by assumption)).symm | exact (R47.text0 (by assumption) (by omega)).symm | exact (R47.rtext0 (by assumption) (by omega)).symm | exact (R47.text1 (by assumption) (by omega)).symm | exact (R47.rtext1 (by assumption) (by omega)).symm | exact (R47.text2 (by assumption) (by omega)).symm | exact (R47.rtext2 (by assumption) (by omega)).symm | exact (R47.text3 (by assumption) (by omega)).symm | exact (R47.rtext3 (by assumption) (by omega)).symm | exact (R47.text4 (by assumption) (by omega)).symm | exact (R47.rtext4 (by assumption) (by omega)).symm | exact (R47.text5 (by assumption) (by omega)).symm | exact (R47.rtext5 (by assumption) (by omega)).symm | exact (R47.text6 (by assumption) (by omega)).symm | exact (R47.rtext6 (by assumption) (by omega)).symm | exact (R47.text7 (by assumption) (by omega)).symm | exact (R47.rtext7 (by assumption) (by omega)).symm
          exact congrArg (fun (x0 : Bytes) => vS x0) e_x0
        · rfl
      · refine JA_ready (rs := [0, 4]) (by kernel_rfl) (by decide) (fun _ h => ⟨h.keep [false] rfl, fun _ => h⟩) (List.forall_mem_cons.2 ⟨?_, (List.forall_mem_cons.2 ⟨?_, all_nil⟩)⟩)
        · refine JI_call [] [] [Ent.blk b57 23 (Change.enc c)] rfl rfl trivial (fun _ => x_call Ty.ca34 rfl) (fun _ h => h) (fun _ h => by cases h) (fun w hS => f34_ok w) ?_
          rintro _ _ ⟨M62, B63, rfl, rfl⟩
          refine JA_ready (rs := [3, 4]) (by kernel_rfl) (by decide) (fun _ h => ⟨h.keep [false, false, false] rfl, fun _ => h.keep [false, false, true] rfl⟩) (List.forall_mem_cons.2 ⟨?_, (List.forall_mem_cons.2 ⟨?_, all_nil⟩)⟩)
          · refine JI_read (Value.agg #[vS [99, 114, 101, 97, 116, 101], vI 0, vI 0, vI 0, vI 400, vB true, Value.func (.func 54) #[] #[]]) rfl rfl trivial (x_lookup_v 0 (f := vI) (k := c.Kind) rfl rfl rfl Tryd.underlying63 (mapK_i Tryd.underlying3) Ty.ze61 (R47.look_at B63 (k := 4) hc (by decide)) rfl) ?_
            refine JA_one 4 (by kernel_rfl) (fun _ h => ⟨h.keep [false, false, false] rfl, fun _ => h.keep [false, false, true] rfl⟩) ?_
            refine JI_op rfl rfl trivial (O_alloc Ty.ze61 rfl fun b65 => ?_)
            refine JA_one 5 (by kernel_rfl) (fun _ h => ⟨h.keep [false, false, false, false] rfl, fun _ => h.keep [false, false, false, true] rfl⟩) ?_
            refine JI_op rfl rfl trivial (O_storeS (vs := [vS [99, 114, 101, 97, 116, 101], vI 0, vI 0, vI 0, vI 400, vB true, Value.func (.func 54) #[] #[]]) 0 [vS [99, 114, 101, 97, 116, 101], vI 0, vI 0, vI 0, vI 400, vB true, Value.func (.func 54) #[] #[]] [Ent.blk b65 61 [vS [99, 114, 101, 97, 116, 101], vI 0, vI 0, vI 0, vI 400, vB true, Value.func (.func 54) #[] #[]], Ent.mp vI M62 (R47.entries B63), Ent.blk B63 26 [Value.func (.func 53) #[] #[]], Ent.blk b57 23 (Change.enc c)] rfl rfl rfl Ty.sz61 rfl (Nat.le_of_ble_eq_true rfl) rfl rfl rfl ?_)
            exact JA_done (by kernel_rfl) (fun _ h => ⟨h.keep [false, false, false, false] rfl, fun hh => Bool.noConfusion (show false = true from hh)⟩) (JX_weaken (E' := [(1, Value.pointer (some ⟨b57, 0, none⟩)), (2, vS []), (3, Value.pointer (some ⟨b65, 0, none⟩))]) (L' := [Ent.blk b65 61 [vS [99, 114, 101, 97, 116, 101], vI 0, vI 0, vI 0, vI 400, vB true, Value.func (.func 54) #[] #[]], Ent.blk b57 23 (Change.enc c)]) ⟨rfl, rfl, rfl, trivial⟩ (fun _ h => h.keep [true, false, false, true] rfl) (key60 b65))
          · refine JI_op rfl rfl trivial (O_alloc Ty.ze61 rfl fun b66 => ?_)
            refine JA_one 3 (by kernel_rfl) (fun _ h => ⟨h.keep [false, false, false, false] rfl, fun _ => h.keep [false, false, false, true] rfl⟩) ?_
            refine JI_read (Value.agg #[vS [99, 114, 101, 97, 116, 101], vI 0, vI 0, vI 0, vI 400, vB true, Value.func (.func 54) #[] #[]]) rfl rfl trivial (x_lookup_v 1 (f := vI) (k := c.Kind) rfl rfl rfl Tryd.underlying63 (mapK_i Tryd.underlying3) Ty.ze61 (R47.look_at B63 (k := 4) hc (by decide)) rfl) ?_
            refine JA_one 5 (by kernel_rfl) (fun _ h => ⟨h.keep [false, false, false, false] rfl, fun _ => h.keep [false, false, false, true] rfl⟩) ?_
            refine JI_op rfl rfl trivial (O_storeS (vs := [vS [99, 114, 101, 97, 116, 101], vI 0, vI 0, vI 0, vI 400, vB true, Value.func (.func 54) #[] #[]]) 0 [vS [99, 114, 101, 97, 116, 101], vI 0, vI 0, vI 0, vI 400, vB true, Value.func (.func 54) #[] #[]] [Ent.blk b66 61 [vS [99, 114, 101, 97, 116, 101], vI 0, vI 0, vI 0, vI 400, vB true, Value.func (.func 54) #[] #[]], Ent.mp vI M62 (R47.entries B63), Ent.blk B63 26 [Value.func (.func 53) #[] #[]], Ent.blk b57 23 (Change.enc c)] rfl rfl rfl Ty.sz61 rfl (Nat.le_of_ble_eq_true rfl) rfl rfl rfl ?_)
            exact JA_done (by kernel_rfl) (fun _ h => ⟨h.keep [false, false, false, false] rfl, fun hh => Bool.noConfusion (show false = true from hh)⟩) (JX_weaken (E' := [(1, Value.pointer (some ⟨b57, 0, none⟩)), (2, vS []), (3, Value.pointer (some ⟨b66, 0, none⟩))]) (L' := [Ent.blk b66 61 [vS [99, 114, 101, 97, 116, 101], vI 0, vI 0, vI 0, vI 400, vB true, Value.func (.func 54) #[] #[]], Ent.blk b57 23 (Change.enc c)]) ⟨rfl, rfl, rfl, trivial⟩ (fun _ h => h.keep [true, false, false, true] rfl) (key60 b66))
        · refine JI_op rfl rfl trivial (O_alloc Ty.ze61 rfl fun b67 => ?_)
          refine JA_one 0 (by kernel_rfl) (fun _ h => ⟨h.keep [false, false] rfl, fun _ => h.keep [false, true] rfl⟩) ?_
          refine JI_call [] [] [Ent.blk b67 61 [vS [], vI 0, vI 0, vI 0, vI 0, vB false, Value.nilFunc], Ent.blk b57 23 (Change.enc c)] rfl rfl trivial (fun _ => x_call Ty.ca34 rfl) (fun _ h => h) (fun _ h => by cases h) (fun w hS => f34_ok w) ?_
          rintro _ _ ⟨M68, B69, rfl, rfl⟩
          refine JA_one 3 (by kernel_rfl) (fun _ h => ⟨h.keep [false, false, false, false] rfl, fun _ => h.keep [false, false, false, true] rfl⟩) ?_
          refine JI_read (Value.agg #[vS [99, 114, 101, 97, 116, 101], vI 0, vI 0, vI 0, vI 400, vB true, Value.func (.func 54) #[] #[]]) rfl rfl trivial (x_lookup_v 0 (f := vI) (k := c.Kind) rfl rfl rfl Tryd.underlying63 (mapK_i Tryd.underlying3) Ty.ze61 (R47.look_at B69 (k := 4) hc (by decide)) rfl) ?_
          refine JA_one 5 (by kernel_rfl) (fun _ h => ⟨h.keep [false, false, false, false] rfl, fun _ => h.keep [false, false, false, true] rfl⟩) ?_
          refine JI_op rfl rfl trivial (O_storeS (vs := [vS [99, 114, 101, 97, 116, 101], vI 0, vI 0, vI 0, vI 400, vB true, Value.func (.func 54) #[] #[]]) 2 [vS [99, 114, 101, 97, 116, 101], vI 0, vI 0, vI 0, vI 400, vB true, Value.func (.func 54) #[] #[]] [Ent.mp vI M68 (R47.entries B69), Ent.blk B69 26 [Value.func (.func 53) #[] #[]], Ent.blk b67 61 [vS [99, 114, 101, 97, 116, 101], vI 0, vI 0, vI 0, vI 400, vB true, Value.func (.func 54) #[] #[]], Ent.blk b57 23 (Change.enc c)] rfl rfl rfl Ty.sz61 rfl (Nat.le_of_ble_eq_true rfl) rfl rfl rfl ?_)
          exact JA_done (by kernel_rfl) (fun _ h => ⟨h.keep [false, false, false, false] rfl, fun hh => Bool.noConfusion (show false = true from hh)⟩) (JX_weaken (E' := [(1, Value.pointer (some ⟨b57, 0, none⟩)), (2, vS []), (3, Value.pointer (some ⟨b67, 0, none⟩))]) (L' := [Ent.blk b67 61 [vS [99, 114, 101, 97, 116, 101], vI 0, vI 0, vI 0, vI 400, vB true, Value.func (.func 54) #[] #[]], Ent.blk b57 23 (Change.enc c)]) ⟨rfl, rfl, rfl, trivial⟩ (fun _ h => h.keep [false, false, true, true] rfl) (key60 b67))
  · refine J_seq ?_
    refine J_region ?_
    refine JO_op rfl trivial (O_box rfl rfl fun b70 => ?_)
    refine JO_read (vS []) rfl trivial (fun _ _ => rfl) ?_
    refine JO_nil ?_
    refine JX_then ?_
    refine J_seq ?_
    refine J_seq ?_
    refine J_region ?_
    refine JO_read (Value.agg ((Change.enc c)).toArray) rfl trivial (x_loadN 0 (Change.enc c) rfl rfl Ty.ag23 Ty.sz23 rfl) ?_
    refine JO_call [] [] [Ent.blk b70 23 (Change.enc c)] rfl trivial (fun _ => x_call Ty.ca11 rfl) (fun _ h => h) (fun _ h => by cases h) (fun w hS => f11_ok c w hy_) ?_
    rintro _ _ ⟨rfl, rfl⟩
    refine JO_read (vB (!(R47.valid c))) rfl trivial (fun _ _ => x_not rfl) ?_
    refine JO_nil ?_
    refine JX_then ?_
    refine J_cond (!(R47.valid c)) rfl rfl (fun h71 => ?_) (fun h71 => ?_)
    · have h71 : (R47.valid c) = false := bnot_true h71
      refine J_seq ?_
      refine J_region ?_
      refine JO_read (vS []) rfl trivial (fun _ _ => rfl) ?_
      refine JO_nil ?_
      refine JX_then ?_
      refine J_ret ?_
      refine JX_then_ret ?_
      refine JX_rets [vS []] (vS []) Tryd.results13 (fun w h => ⟨rfl, trivial⟩) rfl [] (fun _ h => h.keep [false] rfl) ⟨?_, ?_⟩
      · have e_x0 : ([] : Bytes) = (R47.text c) := by
          first | exact (R47.text_no (by assumption)).symm | exact (R47.text0 (by assumption) (by omega)).symm | exact (R47.rtext0 (by assumption) (by omega)).symm | exact (R47.text1 (by assumption) (by omega)).symm | exact (R47.rtext1 (by assumption) (by omega)).symm | exact (R47.text2 (by assumption) (by omega)).symm | exact (R47.rtext2 (by assumption) (by omega)).symm | exact (R47.text3 (by assumption) (by omega)).symm | exact (R47.rtext3 (by assumption) (by omega)).symm | exact (R47.text4 (by assumption) (by omega)).symm | exact (R47.rtext4 (by assumption) (by omega)).symm | exact (R47.text5 (by assumption) (by omega)).symm | exact (R47.rtext5 (by assumption) (by omega)).symm | exact (R47.text6 (by assumption) (by omega)).symm | exact (R47.rtext6 (by assumption) (by omega)).symm | exact (R47.text7 (by assumption) (by omega)).symm | exact (R47.rtext7 (by assumption) (by omega)).symm
        exact congrArg (fun (x0 : Bytes) => vS x0) e_x0
      · rfl
    · have h71 : (R47.valid c) = true := bnot_false h71
      have hi72 := R47.valid_facts h71
      refine J_skip ?_
      refine JX_then ?_
      refine J_seq ?_
      refine J_draw [] [5] [Ent.blk b70 23 (Change.enc c)] 6 Ty.mixed rfl ?_
      refine JA_take 1 (Value.pointer (some ⟨b70, 0, none⟩)) rfl (by kernel_rfl) (by kernel_rfl) (by kernel_rfl) rfl (fun _ _ _ h => h) rfl trivial (fun _ _ => x_fieldAddr Ty.fi23_0 rfl rfl) ?_
      refine JA_early 2 (vI c.Kind) rfl (by kernel_rfl) (by kernel_rfl) (by kernel_rfl) rfl (by kernel_rfl) (fun _ _ _ h => h) rfl trivial (x_load 0 rfl rfl Ty.sc3 rfl) ?_
      refine JA_finX (X := Nat) (fun b76 => [(1, Value.pointer (some ⟨b70, 0, none⟩)), (2, vS []), (3, Value.pointer (some ⟨b76, 0, none⟩))]) (fun b76 => [Ent.blk b76 61 [vS [114, 101, 109, 111, 118, 101], vI 0, vI 0, vI 0, vI 0, vB true, Value.func (.func 54) #[] #[]], Ent.blk b70 23 (Change.enc c)]) ?_ (fun key73 => ?_)
      · rintro b76
        show JX _ _ _ _ _ [(1, Value.pointer (some ⟨b70, 0, none⟩)), (2, vS []), (3, Value.pointer (some ⟨b76, 0, none⟩))] [Ent.blk b76 61 [vS [114, 101, 109, 111, 118, 101], vI 0, vI 0, vI 0, vI 0, vB true, Value.func (.func 54) #[] #[]], Ent.blk b70 23 (Change.enc c)]
        refine JX_then ?_
        refine J_seq ?_
        refine J_draw [Ent.blk b76 61 [vS [114, 101, 109, 111, 118, 101], vI 0, vI 0, vI 0, vI 0, vB true, Value.func (.func 54) #[] #[]], Ent.blk b70 23 (Change.enc c)] [] [Ent.blk b76 61 [vS [114, 101, 109, 111, 118, 101], vI 0, vI 0, vI 0, vI 0, vB true, Value.func (.func 54) #[] #[]], Ent.blk b70 23 (Change.enc c)] 8 Ty.mixed rfl ?_
        refine JA_take 0 (Value.pointer (some ⟨b76, 0, none⟩)) rfl (by kernel_rfl) (by kernel_rfl) (by kernel_rfl) rfl (fun _ _ _ h => h) rfl trivial (fun _ _ => x_fieldAddr Ty.fi61_0 rfl rfl) ?_
        refine JA_take 1 (vS [114, 101, 109, 111, 118, 101]) rfl (by kernel_rfl) (by kernel_rfl) (by kernel_rfl) rfl (fun _ _ _ h => h) rfl trivial (x_load 0 rfl rfl Ty.sc9 rfl) ?_
        refine JA_take 2 (vS ([114, 101, 109, 111, 118, 101] ++ [32])) rfl (by kernel_rfl) (by kernel_rfl) (by kernel_rfl) rfl (fun _ _ _ h => h) rfl trivial (fun _ _ => x_cat_s rfl rfl (by first | omega | (simp only [List.length_append, List.length_cons, List.length_nil]; omega) | (simp; omega) | (simp_all; omega))) ?_
        refine JA_take 3 (Value.pointer (some ⟨b70, 1, none⟩)) rfl (by kernel_rfl) (by kernel_rfl) (by kernel_rfl) rfl (fun _ _ _ h => h) rfl trivial (fun _ _ => x_fieldAddr Ty.fi23_1 rfl rfl) ?_
        refine JA_take 4 (vI c.Id) rfl (by kernel_rfl) (by kernel_rfl) (by kernel_rfl) rfl (fun _ _ _ h => h) rfl trivial (x_load 1 rfl rfl Ty.sc3 rfl) ?_
        refine JA_one 5 (by kernel_rfl) (fun _ h => ⟨h, fun _ => h⟩) ?_
        refine JI_call [] [] [Ent.blk b76 61 [vS [114, 101, 109, 111, 118, 101], vI 0, vI 0, vI 0, vI 0, vB true, Value.func (.func 54) #[] #[]], Ent.blk b70 23 (Change.enc c)] rfl rfl trivial (fun _ => x_call Ty.ca38 rfl) (fun _ h => h) (fun _ h => by cases h) (fun w hS => itoa_ok c.Id w (hT.on hS (fun _ h => by cases h)) hy_ hy_) ?_
        rintro _ _ ⟨rfl, rfl⟩
        have ha74 := R47.dec_len c.Id (by omega)
        refine JA_take 6 (vS (([114, 101, 109, 111, 118, 101] ++ [32]) ++ (Lib.decDigits c.Id.toNat))) rfl (by kernel_rfl) (by kernel_rfl) (by kernel_rfl) rfl (fun _ _ _ h => h) rfl trivial (fun _ _ => x_cat_s rfl rfl (by first | omega | (simp only [List.length_append, List.length_cons, List.length_nil]; omega) | (simp; omega) | (simp_all; omega))) ?_
        refine JA_take 7 (vS (([114, 101, 109, 111, 118, 101] ++ [32]) ++ (Lib.decDigits c.Id.toNat))) rfl (by kernel_rfl) (by kernel_rfl) (by kernel_rfl) rfl (fun _ _ _ h => h) rfl trivial (fun _ _ => rfl) ?_
        refine JA_done (by kernel_rfl) (fun _ h => ⟨h, fun _ => h⟩) ?_
        refine JX_then ?_
        refine J_seq ?_
        refine J_seq ?_
        refine J_region ?_
        refine JO_read (Value.pointer (some ⟨b76, 6, none⟩)) rfl trivial (fun _ _ => x_fieldAddr Ty.fi61_4 rfl rfl) ?_
        refine JO_read (Value.func (.func 54) #[] #[]) rfl trivial (x_load 0 rfl rfl Ty.sc26 rfl) ?_
        refine JO_read (vB true) rfl trivial (fun _ _ => x_neq_fn rfl rfl Tryd.underlying26 rfl) ?_
        refine JO_nil ?_
        refine JX_then ?_
        refine J_cond true rfl rfl (fun h => ?_) (fun h => by cases h)
        refine J_region ?_
        refine JO_read (vS (([114, 101, 109, 111, 118, 101] ++ [32]) ++ (Lib.decDigits c.Id.toNat))) rfl trivial (fun _ _ => rfl) ?_
        refine JO_read (Value.pointer (some ⟨b76, 6, none⟩)) rfl trivial (fun _ _ => x_fieldAddr Ty.fi61_4 rfl rfl) ?_
        refine JO_read (Value.func (.func 54) #[] #[]) rfl trivial (x_load 0 rfl rfl Ty.sc26 rfl) ?_
        refine JO_read (Value.agg ((Change.enc c)).toArray) rfl trivial (x_loadN 1 (Change.enc c) rfl rfl Ty.ag23 Ty.sz23 rfl) ?_
        refine JO_call [] [] [Ent.blk b76 61 [vS [114, 101, 109, 111, 118, 101], vI 0, vI 0, vI 0, vI 0, vB true, Value.func (.func 54) #[] #[]], Ent.blk b70 23 (Change.enc c)] rfl trivial (fun _ => x_callv (first := []) (caps := []) rfl Ty.ca54 rfl) (fun _ h => h) (fun _ h => by cases h) (fun w hS => f54_ok c w) ?_
        rintro _ _ ⟨rfl, rfl⟩
        refine JO_read (vS ([32] ++ c.Volume)) rfl trivial (fun _ _ => x_cat_s rfl rfl (by first | omega | (simp only [List.length_append, List.length_cons, List.length_nil]; omega) | (simp; omega) | (simp_all; omega))) ?_
        refine JO_read (vS ((([114, 101, 109, 111, 118, 101] ++ [32]) ++ (Lib.decDigits c.Id.toNat)) ++ ([32] ++ c.Volume))) rfl trivial (fun _ _ => x_cat_s rfl rfl (by first | omega | (simp only [List.length_append, List.length_cons, List.length_nil]; omega) | (simp; omega) | (simp_all; omega))) ?_
        refine JO_read (vS ((([114, 101, 109, 111, 118, 101] ++ [32]) ++ (Lib.decDigits c.Id.toNat)) ++ ([32] ++ c.Volume))) rfl trivial (fun _ _ => rfl) ?_
        refine JO_nil ?_
        refine JX_then ?_
        refine J_seq ?_
        refine J_region ?_
        refine JO_read (vS ((([114, 101, 109, 111, 118, 101] ++ [32]) ++ (Lib.decDigits c.Id.toNat)) ++ ([32] ++ c.Volume))) rfl trivial (fun _ _ => rfl) ?_
        refine JO_read (vS ((([114, 101, 109, 111, 118, 101] ++ [32]) ++ (Lib.decDigits c.Id.toNat)) ++ ([32] ++ c.Volume))) rfl trivial (fun _ _ => rfl) ?_
        refine JO_nil ?_
        refine JX_then ?_
        refine J_ret ?_
        refine JX_rets [vS ((([114, 101, 109, 111, 118, 101] ++ [32]) ++ (Lib.decDigits c.Id.toNat)) ++ ([32] ++ c.Volume))] (vS ((([114, 101, 109, 111, 118, 101] ++ [32]) ++ (Lib.decDigits c.Id.toNat)) ++ ([32] ++ c.Volume))) Tryd.results13 (fun w h => ⟨rfl, trivial⟩) rfl [] (fun _ h => h.keep [false, false] rfl) ⟨?_, ?_⟩
        · have e_x0 : ((([114, 101, 109, 111, 118, 101] ++ [32]) ++ (Lib.decDigits c.Id.toNat)) ++ ([32] ++ c.Volume) : Bytes) = (R47.text c) := by
            first | exact (R47.text_no (by assumption)).symm | exact (R47.text0 (by assumption) (by omega)).symm | exact (R47.rtext0 (by assumption) (by omega)).symm | exact (R47.text1 (by assumption) (by omega)).symm | exact (R47.rtext1 (by assumption) (by omega)).symm | exact (R47.text2 (by assumption) (by omega)).symm | exact (R47.rtext2 (by assumption) (by omega)).symm | exact (R47.text3 (by assumption) (by omega)).symm | exact (R47.rtext3 (by assumption) (by omega)).symm | exact (R47.text4 (by assumption) (by omega)).symm | exact (R47.rtext4 (by assumption) (by omega)).symm | exact (R47.text5 (by assumption) (by omega)).symm | exact (R47.rtext5 (by assumption) (by omega)).symm | exact (R47.text6 (by assumption) (by omega)).symm | exact (R47.rtext6 (by assumption) (by omega)).symm | exact (R47.text7 (by assumption) (by omega)).symm | exact (R47.rtext7 (by assumption) (by omega)).symm
          exact congrArg (fun (x0 : Bytes) => vS x0) e_x0
        · rfl
      · refine JA_ready (rs := [0, 4]) (by kernel_rfl) (by decide) (fun _ h => ⟨h.keep [false] rfl, fun _ => h⟩) (List.forall_mem_cons.2 ⟨?_, (List.forall_mem_cons.2 ⟨?_, all_nil⟩)⟩)
        · refine JI_call [] [] [Ent.blk b70 23 (Change.enc c)] rfl rfl trivial (fun _ => x_call Ty.ca34 rfl) (fun _ h => h) (fun _ h => by cases h) (fun w hS => f34_ok w) ?_
          rintro _ _ ⟨M75, B76, rfl, rfl⟩
          refine JA_ready (rs := [3, 4]) (by kernel_rfl) (by decide) (fun _ h => ⟨h.keep [false, false, false] rfl, fun _ => h.keep [false, false, true] rfl⟩) (List.forall_mem_cons.2 ⟨?_, (List.forall_mem_cons.2 ⟨?_, all_nil⟩)⟩)
          · refine JI_read (Value.agg #[vS [114, 101, 109, 111, 118, 101], vI 0, vI 0, vI 0, vI 0, vB true, Value.func (.func 54) #[] #[]]) rfl rfl trivial (x_lookup_v 0 (f := vI) (k := c.Kind) rfl rfl rfl Tryd.underlying63 (mapK_i Tryd.underlying3) Ty.ze61 (R47.look_at B76 (k := 5) hc (by decide)) rfl) ?_
            refine JA_one 4 (by kernel_rfl) (fun _ h => ⟨h.keep [false, false, false] rfl, fun _ => h.keep [false, false, true] rfl⟩) ?_
            refine JI_op rfl rfl trivial (O_alloc Ty.ze61 rfl fun b78 => ?_)
            refine JA_one 5 (by kernel_rfl) (fun _ h => ⟨h.keep [false, false, false, false] rfl, fun _ => h.keep [false, false, false, true] rfl⟩) ?_
            refine JI_op rfl rfl trivial (O_storeS (vs := [vS [114, 101, 109, 111, 118, 101], vI 0, vI 0, vI 0, vI 0, vB true, Value.func (.func 54) #[] #[]]) 0 [vS [114, 101, 109, 111, 118, 101], vI 0, vI 0, vI 0, vI 0, vB true, Value.func (.func 54) #[] #[]] [Ent.blk b78 61 [vS [114, 101, 109, 111, 118, 101], vI 0, vI 0, vI 0, vI 0, vB true, Value.func (.func 54) #[] #[]], Ent.mp vI M75 (R47.entries B76), Ent.blk B76 26 [Value.func (.func 53) #[] #[]], Ent.blk b70 23 (Change.enc c)] rfl rfl rfl Ty.sz61 rfl (Nat.le_of_ble_eq_true rfl) rfl rfl rfl ?_)
            exact JA_done (by kernel_rfl) (fun _ h => ⟨h.keep [false, false, false, false] rfl, fun hh => Bool.noConfusion (show false = true from hh)⟩) (JX_weaken (E' := [(1, Value.pointer (some ⟨b70, 0, none⟩)), (2, vS []), (3, Value.pointer (some ⟨b78, 0, none⟩))]) (L' := [Ent.blk b78 61 [vS [114, 101, 109, 111, 118, 101], vI 0, vI 0, vI 0, vI 0, vB true, Value.func (.func 54) #[] #[]], Ent.blk b70 23 (Change.enc c)]) ⟨rfl, rfl, rfl, trivial⟩ (fun _ h => h.keep [true, false, false, true] rfl) (key73 b78))
          · refine JI_op rfl rfl trivial (O_alloc Ty.ze61 rfl fun b79 => ?_)
            refine JA_one 3 (by kernel_rfl) (fun _ h => ⟨h.keep [false, false, false, false] rfl, fun _ => h.keep [false, false, false, true] rfl⟩) ?_
            refine JI_read (Value.agg #[vS [114, 101, 109, 111, 118, 101], vI 0, vI 0, vI 0, vI 0, vB true, Value.func (.func 54) #[] #[]]) rfl rfl trivial (x_lookup_v 1 (f := vI) (k := c.Kind) rfl rfl rfl Tryd.underlying63 (mapK_i Tryd.underlying3) Ty.ze61 (R47.look_at B76 (k := 5) hc (by decide)) rfl) ?_
            refine JA_one 5 (by kernel_rfl) (fun _ h => ⟨h.keep [false, false, false, false] rfl, fun _ => h.keep [false, false, false, true] rfl⟩) ?_
            refine JI_op rfl rfl trivial (O_storeS (vs := [vS [114, 101, 109, 111, 118, 101], vI 0, vI 0, vI 0, vI 0, vB true, Value.func (.func 54) #[] #[]]) 0 [vS [114, 101, 109, 111, 118, 101], vI 0, vI 0, vI 0, vI 0, vB true, Value.func (.func 54) #[] #[]] [Ent.blk b79 61 [vS [114, 101, 109, 111, 118, 101], vI 0, vI 0, vI 0, vI 0, vB true, Value.func (.func 54) #[] #[]], Ent.mp vI M75 (R47.entries B76), Ent.blk B76 26 [Value.func (.func 53) #[] #[]], Ent.blk b70 23 (Change.enc c)] rfl rfl rfl Ty.sz61 rfl (Nat.le_of_ble_eq_true rfl) rfl rfl rfl ?_)
            exact JA_done (by kernel_rfl) (fun _ h => ⟨h.keep [false, false, false, false] rfl, fun hh => Bool.noConfusion (show false = true from hh)⟩) (JX_weaken (E' := [(1, Value.pointer (some ⟨b70, 0, none⟩)), (2, vS []), (3, Value.pointer (some ⟨b79, 0, none⟩))]) (L' := [Ent.blk b79 61 [vS [114, 101, 109, 111, 118, 101], vI 0, vI 0, vI 0, vI 0, vB true, Value.func (.func 54) #[] #[]], Ent.blk b70 23 (Change.enc c)]) ⟨rfl, rfl, rfl, trivial⟩ (fun _ h => h.keep [true, false, false, true] rfl) (key73 b79))
        · refine JI_op rfl rfl trivial (O_alloc Ty.ze61 rfl fun b80 => ?_)
          refine JA_one 0 (by kernel_rfl) (fun _ h => ⟨h.keep [false, false] rfl, fun _ => h.keep [false, true] rfl⟩) ?_
          refine JI_call [] [] [Ent.blk b80 61 [vS [], vI 0, vI 0, vI 0, vI 0, vB false, Value.nilFunc], Ent.blk b70 23 (Change.enc c)] rfl rfl trivial (fun _ => x_call Ty.ca34 rfl) (fun _ h => h) (fun _ h => by cases h) (fun w hS => f34_ok w) ?_
          rintro _ _ ⟨M81, B82, rfl, rfl⟩
          refine JA_one 3 (by kernel_rfl) (fun _ h => ⟨h.keep [false, false, false, false] rfl, fun _ => h.keep [false, false, false, true] rfl⟩) ?_
          refine JI_read (Value.agg #[vS [114, 101, 109, 111, 118, 101], vI 0, vI 0, vI 0, vI 0, vB true, Value.func (.func 54) #[] #[]]) rfl rfl trivial (x_lookup_v 0 (f := vI) (k := c.Kind) rfl rfl rfl Tryd.underlying63 (mapK_i Tryd.underlying3) Ty.ze61 (R47.look_at B82 (k := 5) hc (by decide)) rfl) ?_
          refine JA_one 5 (by kernel_rfl) (fun _ h => ⟨h.keep [false, false, false, false] rfl, fun _ => h.keep [false, false, false, true] rfl⟩) ?_
          refine JI_op rfl rfl trivial (O_storeS (vs := [vS [114, 101, 109, 111, 118, 101], vI 0, vI 0, vI 0, vI 0, vB true, Value.func (.func 54) #[] #[]]) 2 [vS [114, 101, 109, 111, 118, 101], vI 0, vI 0, vI 0, vI 0, vB true, Value.func (.func 54) #[] #[]] [Ent.mp vI M81 (R47.entries B82), Ent.blk B82 26 [Value.func (.func 53) #[] #[]], Ent.blk b80 61 [vS [114, 101, 109, 111, 118, 101], vI 0, vI 0, vI 0, vI 0, vB true, Value.func (.func 54) #[] #[]], Ent.blk b70 23 (Change.enc c)] rfl rfl rfl Ty.sz61 rfl (Nat.le_of_ble_eq_true rfl) rfl rfl rfl ?_)
          exact JA_done (by kernel_rfl) (fun _ h => ⟨h.keep [false, false, false, false] rfl, fun hh => Bool.noConfusion (show false = true from hh)⟩) (JX_weaken (E' := [(1, Value.pointer (some ⟨b70, 0, none⟩)), (2, vS []), (3, Value.pointer (some ⟨b80, 0, none⟩))]) (L' := [Ent.blk b80 61 [vS [114, 101, 109, 111, 118, 101], vI 0, vI 0, vI 0, vI 0, vB true, Value.func (.func 54) #[] #[]], Ent.blk b70 23 (Change.enc c)]) ⟨rfl, rfl, rfl, trivial⟩ (fun _ h => h.keep [false, false, true, true] rfl) (key73 b80))
  · refine J_seq ?_
    refine J_region ?_
    refine JO_op rfl trivial (O_box rfl rfl fun b83 => ?_)
    refine JO_read (vS []) rfl trivial (fun _ _ => rfl) ?_
    refine JO_nil ?_
    refine JX_then ?_
    refine J_seq ?_
    refine J_seq ?_
    refine J_region ?_
    refine JO_read (Value.agg ((Change.enc c)).toArray) rfl trivial (x_loadN 0 (Change.enc c) rfl rfl Ty.ag23 Ty.sz23 rfl) ?_
    refine JO_call [] [] [Ent.blk b83 23 (Change.enc c)] rfl trivial (fun _ => x_call Ty.ca11 rfl) (fun _ h => h) (fun _ h => by cases h) (fun w hS => f11_ok c w hy_) ?_
    rintro _ _ ⟨rfl, rfl⟩
    refine JO_read (vB (!(R47.valid c))) rfl trivial (fun _ _ => x_not rfl) ?_
    refine JO_nil ?_
    refine JX_then ?_
    refine J_cond (!(R47.valid c)) rfl rfl (fun h84 => ?_) (fun h84 => ?_)
    · have h84 : (R47.valid c) = false := bnot_true h84
      refine J_seq ?_
      refine J_region ?_
      refine JO_read (vS []) rfl trivial (fun _ _ => rfl) ?_
      refine JO_nil ?_
      refine JX_then ?_
      refine J_ret ?_
      refine JX_then_ret ?_
      refine JX_rets [vS []] (vS []) Tryd.results13 (fun w h => ⟨rfl, trivial⟩) rfl [] (fun _ h => h.keep [false] rfl) ⟨?_, ?_⟩
      · have e_x0 : ([] : Bytes) = (R47.text c) := by
          first | exact (R47.text_no (by assumption)).symm | exact (R47.text0 (by assumption) (by omega)).symm | exact (R47.rtext0 (by assumption) (by omega)).symm | exact (R47.text1 (by assumption) (by omega)).symm | exact (R47.rtext1 (by assumption) (by omega)).symm | exact (R47.text2 (by assumption) (by omega)).symm | exact (R47.rtext2 (by assumption) (by omega)).symm | exact (R47.text3 (by assumption) (by omega)).symm | exact (R47.rtext3 (by assumption) (by omega)).symm | exact (R47.text4 (by assumption) (by omega)).symm | exact (R47.rtext4 (by assumption) (by omega)).symm | exact (R47.text5 (by assumption) (by omega)).symm | exact (R47.rtext5 (by assumption) (by omega)).symm | exact (R47.text6 (by assumption) (by omega)).symm | exact (R47.rtext6 (by assumption) (by omega)).symm | exact (R47.text7 (by assumption) (by omega)).symm | exact (R47.rtext7 (by assumption) (by omega)).symm
        exact congrArg (fun (x0 : Bytes) => vS x0) e_x0
      · rfl
    · have h84 : (R47.valid c) = true := bnot_false h84
      have hi85 := R47.valid_facts h84
      refine J_skip ?_
      refine JX_then ?_
      refine J_seq ?_
      refine J_draw [] [5] [Ent.blk b83 23 (Change.enc c)] 6 Ty.mixed rfl ?_
      refine JA_take 1 (Value.pointer (some ⟨b83, 0, none⟩)) rfl (by kernel_rfl) (by kernel_rfl) (by kernel_rfl) rfl (fun _ _ _ h => h) rfl trivial (fun _ _ => x_fieldAddr Ty.fi23_0 rfl rfl) ?_
      refine JA_early 2 (vI c.Kind) rfl (by kernel_rfl) (by kernel_rfl) (by kernel_rfl) rfl (by kernel_rfl) (fun _ _ _ h => h) rfl trivial (x_load 0 rfl rfl Ty.sc3 rfl) ?_
      refine JA_finX (X := Nat) (fun b89 => [(1, Value.pointer (some ⟨b83, 0, none⟩)), (2, vS []), (3, Value.pointer (some ⟨b89, 0, none⟩))]) (fun b89 => [Ent.blk b89 61 [vS [109, 111, 118, 101], vI 0, vI 0, vI 0, vI 400, vB true, Value.func (.func 54) #[] #[]], Ent.blk b83 23 (Change.enc c)]) ?_ (fun key86 => ?_)
      · rintro b89
        show JX _ _ _ _ _ [(1, Value.pointer (some ⟨b83, 0, none⟩)), (2, vS []), (3, Value.pointer (some ⟨b89, 0, none⟩))] [Ent.blk b89 61 [vS [109, 111, 118, 101], vI 0, vI 0, vI 0, vI 400, vB true, Value.func (.func 54) #[] #[]], Ent.blk b83 23 (Change.enc c)]
        refine JX_then ?_
        refine J_seq ?_
        refine J_draw [Ent.blk b89 61 [vS [109, 111, 118, 101], vI 0, vI 0, vI 0, vI 400, vB true, Value.func (.func 54) #[] #[]], Ent.blk b83 23 (Change.enc c)] [] [Ent.blk b89 61 [vS [109, 111, 118, 101], vI 0, vI 0, vI 0, vI 400, vB true, Value.func (.func 54) #[] #[]], Ent.blk b83 23 (Change.enc c)] 8 Ty.mixed rfl ?_
        refine JA_take 0 (Value.pointer (some ⟨b89, 0, none⟩)) rfl (by kernel_rfl) (by kernel_rfl) (by kernel_rfl) rfl (fun _ _ _ h => h) rfl trivial (fun _ _ => x_fieldAddr Ty.fi61_0 rfl rfl) ?_
        refine JA_take 1 (vS [109, 111, 118, 101]) rfl (by kernel_rfl) (by kernel_rfl) (by kernel_rfl) rfl (fun _ _ _ h => h) rfl trivial (x_load 0 rfl rfl Ty.sc9 rfl) ?_
        refine JA_take 2 (vS ([109, 111, 118, 101] ++ [32])) rfl (by kernel_rfl) (by kernel_rfl) (by kernel_rfl) rfl (fun _ _ _ h => h) rfl trivial (fun _ _ => x_cat_s rfl rfl (by first | omega | (simp only [List.length_append, List.length_cons, List.length_nil]; omega) | (simp; omega) | (simp_all; omega))) ?_
        refine JA_take 3 (Value.pointer (some ⟨b83, 1, none⟩)) rfl (by kernel_rfl) (by kernel_rfl) (by kernel_rfl) rfl (fun _ _ _ h => h) rfl trivial (fun _ _ => x_fieldAddr Ty.fi23_1 rfl rfl) ?_
        refine JA_take 4 (vI c.Id) rfl (by kernel_rfl) (by kernel_rfl) (by kernel_rfl) rfl (fun _ _ _ h => h) rfl trivial (x_load 1 rfl rfl Ty.sc3 rfl) ?_
        refine JA_one 5 (by kernel_rfl) (fun _ h => ⟨h, fun _ => h⟩) ?_
        refine JI_call [] [] [Ent.blk b89 61 [vS [109, 111, 118, 101], vI 0, vI 0, vI 0, vI 400, vB true, Value.func (.func 54) #[] #[]], Ent.blk b83 23 (Change.enc c)] rfl rfl trivial (fun _ => x_call Ty.ca38 rfl) (fun _ h => h) (fun _ h => by cases h) (fun w hS => itoa_ok c.Id w (hT.on hS (fun _ h => by cases h)) hy_ hy_) ?_
        rintro _ _ ⟨rfl, rfl⟩
        have ha87 := R47.dec_len c.Id (by omega)
        refine JA_take 6 (vS (([109, 111, 118, 101] ++ [32]) ++ (Lib.decDigits c.Id.toNat))) rfl (by kernel_rfl) (by kernel_rfl) (by kernel_rfl) rfl (fun _ _ _ h => h) rfl trivial (fun _ _ => x_cat_s rfl rfl (by first | omega | (simp only [List.length_append, List.length_cons, List.length_nil]; omega) | (simp; omega) | (simp_all; omega))) ?_
        refine JA_take 7 (vS (([109, 111, 118, 101] ++ [32]) ++ (Lib.decDigits c.Id.toNat))) rfl (by kernel_rfl) (by kernel_rfl) (by kernel_rfl) rfl (fun _ _ _ h => h) rfl trivial (fun _ _ => rfl) ?_
        refine JA_done (by kernel_rfl) (fun _ h => ⟨h, fun _ => h⟩) ?_
        refine JX_then ?_
        refine J_seq ?_
        refine J_seq ?_
        refine J_region ?_
        refine JO_read (Value.pointer (some ⟨b89, 6, none⟩)) rfl trivial (fun _ _ => x_fieldAddr Ty.fi61_4 rfl rfl) ?_
        refine JO_read (Value.func (.func 54) #[] #[]) rfl trivial (x_load 0 rfl rfl Ty.sc26 rfl) ?_
        refine JO_read (vB true) rfl trivial (fun _ _ => x_neq_fn rfl rfl Tryd.underlying26 rfl) ?_
        refine JO_nil ?_
        refine JX_then ?_
        refine J_cond true rfl rfl (fun h => ?_) (fun h => by cases h)
        refine J_region ?_
        refine JO_read (vS (([109, 111, 118, 101] ++ [32]) ++ (Lib.decDigits c.Id.toNat))) rfl trivial (fun _ _ => rfl) ?_
        refine JO_read (Value.pointer (some ⟨b89, 6, none⟩)) rfl trivial (fun _ _ => x_fieldAddr Ty.fi61_4 rfl rfl) ?_
        refine JO_read (Value.func (.func 54) #[] #[]) rfl trivial (x_load 0 rfl rfl Ty.sc26 rfl) ?_
        refine JO_read (Value.agg ((Change.enc c)).toArray) rfl trivial (x_loadN 1 (Change.enc c) rfl rfl Ty.ag23 Ty.sz23 rfl) ?_
        refine JO_call [] [] [Ent.blk b89 61 [vS [109, 111, 118, 101], vI 0, vI 0, vI 0, vI 400, vB true, Value.func (.func 54) #[] #[]], Ent.blk b83 23 (Change.enc c)] rfl trivial (fun _ => x_callv (first := []) (caps := []) rfl Ty.ca54 rfl) (fun _ h => h) (fun _ h => by cases h) (fun w hS => f54_ok c w) ?_
        rintro _ _ ⟨rfl, rfl⟩
        refine JO_read (vS ([32] ++ c.Volume)) rfl trivial (fun _ _ => x_cat_s rfl rfl (by first | omega | (simp only [List.length_append, List.length_cons, List.length_nil]; omega) | (simp; omega) | (simp_all; omega))) ?_
        refine JO_read (vS ((([109, 111, 118, 101] ++ [32]) ++ (Lib.decDigits c.Id.toNat)) ++ ([32] ++ c.Volume))) rfl trivial (fun _ _ => x_cat_s rfl rfl (by first | omega | (simp only [List.length_append, List.length_cons, List.length_nil]; omega) | (simp; omega) | (simp_all; omega))) ?_
        refine JO_read (vS ((([109, 111, 118, 101] ++ [32]) ++ (Lib.decDigits c.Id.toNat)) ++ ([32] ++ c.Volume))) rfl trivial (fun _ _ => rfl) ?_
        refine JO_nil ?_
        refine JX_then ?_
        refine J_seq ?_
        refine J_region ?_
        refine JO_read (vS ((([109, 111, 118, 101] ++ [32]) ++ (Lib.decDigits c.Id.toNat)) ++ ([32] ++ c.Volume))) rfl trivial (fun _ _ => rfl) ?_
        refine JO_read (vS ((([109, 111, 118, 101] ++ [32]) ++ (Lib.decDigits c.Id.toNat)) ++ ([32] ++ c.Volume))) rfl trivial (fun _ _ => rfl) ?_
        refine JO_nil ?_
        refine JX_then ?_
        refine J_ret ?_
        refine JX_rets [vS ((([109, 111, 118, 101] ++ [32]) ++ (Lib.decDigits c.Id.toNat)) ++ ([32] ++ c.Volume))] (vS ((([109, 111, 118, 101] ++ [32]) ++ (Lib.decDigits c.Id.toNat)) ++ ([32] ++ c.Volume))) Tryd.results13 (fun w h => ⟨rfl, trivial⟩) rfl [] (fun _ h => h.keep [false, false] rfl) ⟨?_, ?_⟩
        · have e_x0 : ((([109, 111, 118, 101] ++ [32]) ++ (Lib.decDigits c.Id.toNat)) ++ ([32] ++ c.Volume) : Bytes) = (R47.text c) := by
            first | exact (R47.text_no (by assumption)).symm | exact (R47.text0 (by assumption) (by omega)).symm | exact (R47.rtext0 (by assumption) (by omega)).symm | exact (R47.text1 (by assumption) (by omega)).symm | exact (R47.rtext1 (by assumption) (by omega)).symm | exact (R47.text2 (by assumption) (by omega)).symm | exact (R47.rtext2 (by assumption) (by omega)).symm | exact (R47.text3 (by assumption) (by omega)).symm | exact (R47.rtext3 (by assumption) (by omega)).symm | exact (R47.text4 (by assumption) (by omega)).symm | exact (R47.rtext4 (by assumption) (by omega)).symm | exact (R47.text5 (by assumption) (by omega)).symm | exact (R47.rtext5 (by assumption) (by omega)).symm | exact (R47.text6 (by assumption) (by omega)).symm | exact (R47.rtext6 (by assumption) (by omega)).symm | exact (R47.text7 (by assumption) (by omega)).symm | exact (R47.rtext7 (by assumption) (by omega)).symm
          exact congrArg (fun (x0 : Bytes) => vS x0) e_x0
        · rfl
      · refine JA_ready (rs := [0, 4]) (by kernel_rfl) (by decide) (fun _ h => ⟨h.keep [false] rfl, fun _ => h⟩) (List.forall_mem_cons.2 ⟨?_, (List.forall_mem_cons.2 ⟨?_, all_nil⟩)⟩)
        · refine JI_call [] [] [Ent.blk b83 23 (Change.enc c)] rfl rfl trivial (fun _ => x_call Ty.ca34 rfl) (fun _ h => h) (fun _ h => by cases h) (fun w hS => f34_ok w) ?_
          rintro _ _ ⟨M88, B89, rfl, rfl⟩
          refine JA_ready (rs := [3, 4]) (by kernel_rfl) (by decide) (fun _ h => ⟨h.keep [false, false, false] rfl, fun _ => h.keep [false, false, true] rfl⟩) (List.forall_mem_cons.2 ⟨?_, (List.forall_mem_cons.2 ⟨?_, all_nil⟩)⟩)
          · refine JI_read (Value.agg #[vS [109, 111, 118, 101], vI 0, vI 0, vI 0, vI 400, vB true, Value.func (.func 54) #[] #[]]) rfl rfl trivial (x_lookup_v 0 (f := vI) (k := c.Kind) rfl rfl rfl Tryd.underlying63 (mapK_i Tryd.underlying3) Ty.ze61 (R47.look_at B89 (k := 6) hc (by decide)) rfl) ?_
            refine JA_one 4 (by kernel_rfl) (fun _ h => ⟨h.keep [false, false, false] rfl, fun _ => h.keep [false, false, true] rfl⟩) ?_
            refine JI_op rfl rfl trivial (O_alloc Ty.ze61 rfl fun b91 => ?_)
            refine JA_one 5 (by kernel_rfl) (fun _ h => ⟨h.keep [false, false, false, false] rfl, fun _ => h.keep [false, false, false, true] rfl⟩) ?_
            refine JI_op rfl rfl trivial (O_storeS (vs := [vS [109, 111, 118, 101], vI 0, vI 0, vI 0, vI 400, vB true, Value.func (.func 54) #[] #[]]) 0 [vS [109, 111, 118, 101], vI 0, vI 0, vI 0, vI 400, vB true, Value.func (.func 54) #[] #[]] [Ent.blk b91 61 [vS [109, 111, 118, 101], vI 0, vI 0, vI 0, vI 400, vB true, Value.func (.func 54) #[] #[]], Ent.mp vI M88 (R47.entries B89), Ent.blk B89 26 [Value.func (.func 53) #[] #[]], Ent.blk b83 23 (Change.enc c)] rfl rfl rfl Ty.sz61 rfl (Nat.le_of_ble_eq_true rfl) rfl rfl rfl ?_)
            exact JA_done (by kernel_rfl) (fun _ h => ⟨h.keep [false, false, false, false] rfl, fun hh => Bool.noConfusion (show false = true from hh)⟩) (JX_weaken (E' := [(1, Value.pointer (some ⟨b83, 0, none⟩)), (2, vS []), (3, Value.pointer (some ⟨b91, 0, none⟩))]) (L' := [Ent.blk b91 61 [vS [109, 111, 118, 101], vI 0, vI 0, vI 0, vI 400, vB true, Value.func (.func 54) #[] #[]], Ent.blk b83 23 (Change.enc c)]) ⟨rfl, rfl, rfl, trivial⟩ (fun _ h => h.keep [true, false, false, true] rfl) (key86 b91))
          · refine JI_op rfl rfl trivial (O_alloc Ty.ze61 rfl fun b92 => ?_)
            refine JA_one 3 (by kernel_rfl) (fun _ h => ⟨h.keep [false, false, false, false] rfl, fun _ => h.keep [false, false, false, true] rfl⟩) ?_
            refine JI_read (Value.agg #[vS [109, 111, 118, 101], vI 0, vI 0, vI 0, vI 400, vB true, Value.func (.func 54) #[] #[]]) rfl rfl trivial (x_lookup_v 1 (f := vI) (k := c.Kind) rfl rfl rfl Tryd.underlying63 (mapK_i Tryd.underlying3) Ty.ze61 (R47.look_at B89 (k := 6) hc (by decide)) rfl) ?_
            refine JA_one 5 (by kernel_rfl) (fun _ h => ⟨h.keep [false, false, false, false] rfl, fun _ => h.keep [false, false, false, true] rfl⟩) ?_
            refine JI_op rfl rfl trivial (O_storeS (vs := [vS [109, 111, 118, 101], vI 0, vI 0, vI 0, vI 400, vB true, Value.func (.func 54) #[] #[]]) 0 [vS [109, 111, 118, 101], vI 0, vI 0, vI 0, vI 400, vB true, Value.func (.func 54) #[] #[]] [Ent.blk b92 61 [vS [109, 111, 118, 101], vI 0, vI 0, vI 0, vI 400, vB true, Value.func (.func 54) #[] #[]], Ent.mp vI M88 (R47.entries B89), Ent.blk B89 26 [Value.func (.func 53) #[] #[]], Ent.blk b83 23 (Change.enc c)] rfl rfl rfl Ty.sz61 rfl (Nat.le_of_ble_eq_true rfl) rfl rfl rfl ?_)
            exact JA_done (by kernel_rfl) (fun _ h => ⟨h.keep [false, false, false, false] rfl, fun hh => Bool.noConfusion (show false = true from hh)⟩) (JX_weaken (E' := [(1, Value.pointer (some ⟨b83, 0, none⟩)), (2, vS []), (3, Value.pointer (some ⟨b92, 0, none⟩))]) (L' := [Ent.blk b92 61 [vS [109, 111, 118, 101], vI 0, vI 0, vI 0, vI 400, vB true, Value.func (.func 54) #[] #[]], Ent.blk b83 23 (Change.enc c)]) ⟨rfl, rfl, rfl, trivial⟩ (fun _ h => h.keep [true, false, false, true] rfl) (key86 b92))
        · refine JI_op rfl rfl trivial (O_alloc Ty.ze61 rfl fun b93 => ?_)
          refine JA_one 0 (by kernel_rfl) (fun _ h => ⟨h.keep [false, false] rfl, fun _ => h.keep [false, true] rfl⟩) ?_
          refine JI_call [] [] [Ent.blk b93 61 [vS [], vI 0, vI 0, vI 0, vI 0, vB false, Value.nilFunc], Ent.blk b83 23 (Change.enc c)] rfl rfl trivial (fun _ => x_call Ty.ca34 rfl) (fun _ h => h) (fun _ h => by cases h) (fun w hS => f34_ok w) ?_
          rintro _ _ ⟨M94, B95, rfl, rfl⟩
          refine JA_one 3 (by kernel_rfl) (fun _ h => ⟨h.keep [false, false, false, false] rfl, fun _ => h.keep [false, false, false, true] rfl⟩) ?_
          refine JI_read (Value.agg #[vS [109, 111, 118, 101], vI 0, vI 0, vI 0, vI 400, vB true, Value.func (.func 54) #[] #[]]) rfl rfl trivial (x_lookup_v 0 (f := vI) (k := c.Kind) rfl rfl rfl Tryd.underlying63 (mapK_i Tryd.underlying3) Ty.ze61 (R47.look_at B95 (k := 6) hc (by decide)) rfl) ?_
          refine JA_one 5 (by kernel_rfl) (fun _ h => ⟨h.keep [false, false, false, false] rfl, fun _ => h.keep [false, false, false, true] rfl⟩) ?_
          refine JI_op rfl rfl trivial (O_storeS (vs := [vS [109, 111, 118, 101], vI 0, vI 0, vI 0, vI 400, vB true, Value.func (.func 54) #[] #[]]) 2 [vS [109, 111, 118, 101], vI 0, vI 0, vI 0, vI 400, vB true, Value.func (.func 54) #[] #[]] [Ent.mp vI M94 (R47.entries B95), Ent.blk B95 26 [Value.func (.func 53) #[] #[]], Ent.blk b93 61 [vS [109, 111, 118, 101], vI 0, vI 0, vI 0, vI 400, vB true, Value.func (.func 54) #[] #[]], Ent.blk b83 23 (Change.enc c)] rfl rfl rfl Ty.sz61 rfl (Nat.le_of_ble_eq_true rfl) rfl rfl rfl ?_)
          exact JA_done (by kernel_rfl) (fun _ h => ⟨h.keep [false, false, false, false] rfl, fun hh => Bool.noConfusion (show false = true from hh)⟩) (JX_weaken (E' := [(1, Value.pointer (some ⟨b83, 0, none⟩)), (2, vS []), (3, Value.pointer (some ⟨b93, 0, none⟩))]) (L' := [Ent.blk b93 61 [vS [109, 111, 118, 101], vI 0, vI 0, vI 0, vI 400, vB true, Value.func (.func 54) #[] #[]], Ent.blk b83 23 (Change.enc c)]) ⟨rfl, rfl, rfl, trivial⟩ (fun _ h => h.keep [false, false, true, true] rfl) (key86 b93))
  · refine J_seq ?_
    refine J_region ?_
    refine JO_op rfl trivial (O_box rfl rfl fun b96 => ?_)
    refine JO_read (vS []) rfl trivial (fun _ _ => rfl) ?_
    refine JO_nil ?_
    refine JX_then ?_
    refine J_seq ?_
    refine J_seq ?_
    refine J_region ?_
    refine JO_read (Value.agg ((Change.enc c)).toArray) rfl trivial (x_loadN 0 (Change.enc c) rfl rfl Ty.ag23 Ty.sz23 rfl) ?_
    refine JO_call [] [] [Ent.blk b96 23 (Change.enc c)] rfl trivial (fun _ => x_call Ty.ca11 rfl) (fun _ h => h) (fun _ h => by cases h) (fun w hS => f11_ok c w hy_) ?_
    rintro _ _ ⟨rfl, rfl⟩
    refine JO_read (vB (!(R47.valid c))) rfl trivial (fun _ _ => x_not rfl) ?_
    refine JO_nil ?_
    refine JX_then ?_
    refine J_cond (!(R47.valid c)) rfl rfl (fun h97 => ?_) (fun h97 => ?_)
    · have h97 : (R47.valid c) = false := bnot_true h97
      refine J_seq ?_
      refine J_region ?_
      refine JO_read (vS []) rfl trivial (fun _ _ => rfl) ?_
      refine JO_nil ?_
      refine JX_then ?_
      refine J_ret ?_
      refine JX_then_ret ?_
      refine JX_rets [vS []] (vS []) Tryd.results13 (fun w h => ⟨rfl, trivial⟩) rfl [] (fun _ h => h.keep [false] rfl) ⟨?_, ?_⟩
      · have e_x0 : ([] : Bytes) = (R47.text c) := by
          first | exact (R47.text_no (by assumption)).symm | exact (R47.text0 (by assumption) (by omega)).symm | exact (R47.rtext0 (by assumption) (by omega)).symm | exact (R47.text1 (by assumption) (by omega)).symm | exact (R47.rtext1 (by assumption) (by omega)).symm | exact (R47.text2 (by assumption) (by omega)).symm | exact (R47.rtext2 (by assumption) (by omega)).symm | exact (R47.text3 (by assumption) (by omega)).symm | exact (R47.rtext3 (by assumption) (by omega)).symm | exact (R47.text4 (by assumption) (by omega)).symm | exact (R47.rtext4 (by assumption) (by omega)).symm | exact (R47.text5 (by assumption) (by omega)).symm | exact (R47.rtext5 (by assumption) (by omega)).symm | exact (R47.text6 (by assumption) (by omega)).symm | exact (R47.rtext6 (by assumption) (by omega)).symm | exact (R47.text7 (by assumption) (by omega)).symm | exact (R47.rtext7 (by assumption) (by omega)).symm
        exact congrArg (fun (x0 : Bytes) => vS x0) e_x0
      · rfl
    · have h97 : (R47.valid c) = true := bnot_false h97
      have hi98 := R47.valid_facts h97
      refine J_skip ?_
      refine JX_then ?_
      refine J_seq ?_
      refine J_draw [] [5] [Ent.blk b96 23 (Change.enc c)] 6 Ty.mixed rfl ?_
      refine JA_take 1 (Value.pointer (some ⟨b96, 0, none⟩)) rfl (by kernel_rfl) (by kernel_rfl) (by kernel_rfl) rfl (fun _ _ _ h => h) rfl trivial (fun _ _ => x_fieldAddr Ty.fi23_0 rfl rfl) ?_
      refine JA_early 2 (vI c.Kind) rfl (by kernel_rfl) (by kernel_rfl) (by kernel_rfl) rfl (by kernel_rfl) (fun _ _ _ h => h) rfl trivial (x_load 0 rfl rfl Ty.sc3 rfl) ?_
      refine JA_finX (X := Nat) (fun b102 => [(1, Value.pointer (some ⟨b96, 0, none⟩)), (2, vS []), (3, Value.pointer (some ⟨b102, 0, none⟩))]) (fun b102 => [Ent.blk b102 61 [vS [110, 111, 116, 101], vI 0, vI 0, vI 0, vI 400, vB true, Value.func (.func 54) #[] #[]], Ent.blk b96 23 (Change.enc c)]) ?_ (fun key99 => ?_)
      · rintro b102
        show JX _ _ _ _ _ [(1, Value.pointer (some ⟨b96, 0, none⟩)), (2, vS []), (3, Value.pointer (some ⟨b102, 0, none⟩))] [Ent.blk b102 61 [vS [110, 111, 116, 101], vI 0, vI 0, vI 0, vI 400, vB true, Value.func (.func 54) #[] #[]], Ent.blk b96 23 (Change.enc c)]
        refine JX_then ?_
        refine J_seq ?_
        refine J_draw [Ent.blk b102 61 [vS [110, 111, 116, 101], vI 0, vI 0, vI 0, vI 400, vB true, Value.func (.func 54) #[] #[]], Ent.blk b96 23 (Change.enc c)] [] [Ent.blk b102 61 [vS [110, 111, 116, 101], vI 0, vI 0, vI 0, vI 400, vB true, Value.func (.func 54) #[] #[]], Ent.blk b96 23 (Change.enc c)] 8 Ty.mixed rfl ?_
        refine JA_take 0 (Value.pointer (some ⟨b102, 0, none⟩)) rfl (by kernel_rfl) (by kernel_rfl) (by kernel_rfl) rfl (fun _ _ _ h => h) rfl trivial (fun _ _ => x_fieldAddr Ty.fi61_0 rfl rfl) ?_
        refine JA_take 1 (vS [110, 111, 116, 101]) rfl (by kernel_rfl) (by kernel_rfl) (by kernel_rfl) rfl (fun _ _ _ h => h) rfl trivial (x_load 0 rfl rfl Ty.sc9 rfl) ?_
        refine JA_take 2 (vS ([110, 111, 116, 101] ++ [32])) rfl (by kernel_rfl) (by kernel_rfl) (by kernel_rfl) rfl (fun _ _ _ h => h) rfl trivial (fun _ _ => x_cat_s rfl rfl (by first | omega | (simp only [List.length_append, List.length_cons, List.length_nil]; omega) | (simp; omega) | (simp_all; omega))) ?_
        refine JA_take 3 (Value.pointer (some ⟨b96, 1, none⟩)) rfl (by kernel_rfl) (by kernel_rfl) (by kernel_rfl) rfl (fun _ _ _ h => h) rfl trivial (fun _ _ => x_fieldAddr Ty.fi23_1 rfl rfl) ?_
        refine JA_take 4 (vI c.Id) rfl (by kernel_rfl) (by kernel_rfl) (by kernel_rfl) rfl (fun _ _ _ h => h) rfl trivial (x_load 1 rfl rfl Ty.sc3 rfl) ?_
        refine JA_one 5 (by kernel_rfl) (fun _ h => ⟨h, fun _ => h⟩) ?_
        refine JI_call [] [] [Ent.blk b102 61 [vS [110, 111, 116, 101], vI 0, vI 0, vI 0, vI 400, vB true, Value.func (.func 54) #[] #[]], Ent.blk b96 23 (Change.enc c)] rfl rfl trivial (fun _ => x_call Ty.ca38 rfl) (fun _ h => h) (fun _ h => by cases h) (fun w hS => itoa_ok c.Id w (hT.on hS (fun _ h => by cases h)) hy_ hy_) ?_
        rintro _ _ ⟨rfl, rfl⟩
        have ha100 := R47.dec_len c.Id (by omega)
        refine JA_take 6 (vS (([110, 111, 116, 101] ++ [32]) ++ (Lib.decDigits c.Id.toNat))) rfl (by kernel_rfl) (by kernel_rfl) (by kernel_rfl) rfl (fun _ _ _ h => h) rfl trivial (fun _ _ => x_cat_s rfl rfl (by first | omega | (simp only [List.length_append, List.length_cons, List.length_nil]; omega) | (simp; omega) | (simp_all; omega))) ?_
        refine JA_take 7 (vS (([110, 111, 116, 101] ++ [32]) ++ (Lib.decDigits c.Id.toNat))) rfl (by kernel_rfl) (by kernel_rfl) (by kernel_rfl) rfl (fun _ _ _ h => h) rfl trivial (fun _ _ => rfl) ?_
        refine JA_done (by kernel_rfl) (fun _ h => ⟨h, fun _ => h⟩) ?_
        refine JX_then ?_
        refine J_seq ?_
        refine J_seq ?_
        refine J_region ?_
        refine JO_read (Value.pointer (some ⟨b102, 6, none⟩)) rfl trivial (fun _ _ => x_fieldAddr Ty.fi61_4 rfl rfl) ?_
        refine JO_read (Value.func (.func 54) #[] #[]) rfl trivial (x_load 0 rfl rfl Ty.sc26 rfl) ?_
        refine JO_read (vB true) rfl trivial (fun _ _ => x_neq_fn rfl rfl Tryd.underlying26 rfl) ?_
        refine JO_nil ?_
        refine JX_then ?_
        refine J_cond true rfl rfl (fun h => ?_) (fun h => by cases h)
        refine J_region ?_
        refine JO_read (vS (([110, 111, 116, 101] ++ [32]) ++ (Lib.decDigits c.Id.toNat))) rfl trivial (fun _ _ => rfl) ?_
        refine JO_read (Value.pointer (some ⟨b102, 6, none⟩)) rfl trivial (fun _ _ => x_fieldAddr Ty.fi61_4 rfl rfl) ?_
        refine JO_read (Value.func (.func 54) #[] #[]) rfl trivial (x_load 0 rfl rfl Ty.sc26 rfl) ?_
        refine JO_read (Value.agg ((Change.enc c)).toArray) rfl trivial (x_loadN 1 (Change.enc c) rfl rfl Ty.ag23 Ty.sz23 rfl) ?_
        refine JO_call [] [] [Ent.blk b102 61 [vS [110, 111, 116, 101], vI 0, vI 0, vI 0, vI 400, vB true, Value.func (.func 54) #[] #[]], Ent.blk b96 23 (Change.enc c)] rfl trivial (fun _ => x_callv (first := []) (caps := []) rfl Ty.ca54 rfl) (fun _ h => h) (fun _ h => by cases h) (fun w hS => f54_ok c w) ?_
        rintro _ _ ⟨rfl, rfl⟩
        refine JO_read (vS ([32] ++ c.Volume)) rfl trivial (fun _ _ => x_cat_s rfl rfl (by first | omega | (simp only [List.length_append, List.length_cons, List.length_nil]; omega) | (simp; omega) | (simp_all; omega))) ?_
        refine JO_read (vS ((([110, 111, 116, 101] ++ [32]) ++ (Lib.decDigits c.Id.toNat)) ++ ([32] ++ c.Volume))) rfl trivial (fun _ _ => x_cat_s rfl rfl (by first | omega | (simp only [List.length_append, List.length_cons, List.length_nil]; omega) | (simp; omega) | (simp_all; omega))) ?_
        refine JO_read (vS ((([110, 111, 116, 101] ++ [32]) ++ (Lib.decDigits c.Id.toNat)) ++ ([32] ++ c.Volume))) rfl trivial (fun _ _ => rfl) ?_
        refine JO_nil ?_
        refine JX_then ?_
        refine J_seq ?_
        refine J_region ?_
        refine JO_read (vS ((([110, 111, 116, 101] ++ [32]) ++ (Lib.decDigits c.Id.toNat)) ++ ([32] ++ c.Volume))) rfl trivial (fun _ _ => rfl) ?_
        refine JO_read (vS ((([110, 111, 116, 101] ++ [32]) ++ (Lib.decDigits c.Id.toNat)) ++ ([32] ++ c.Volume))) rfl trivial (fun _ _ => rfl) ?_
        refine JO_nil ?_
        refine JX_then ?_
        refine J_ret ?_
        refine JX_rets [vS ((([110, 111, 116, 101] ++ [32]) ++ (Lib.decDigits c.Id.toNat)) ++ ([32] ++ c.Volume))] (vS ((([110, 111, 116, 101] ++ [32]) ++ (Lib.decDigits c.Id.toNat)) ++ ([32] ++ c.Volume))) Tryd.results13 (fun w h => ⟨rfl, trivial⟩) rfl [] (fun _ h => h.keep [false, false] rfl) ⟨?_, ?_⟩
        · have e_x0 : ((([110, 111, 116, 101] ++ [32]) ++ (Lib.decDigits c.Id.toNat)) ++ ([32] ++ c.Volume) : Bytes) = (R47.text c) := by
            first | exact (R47.text_no (by assumption)).symm | exact (R47.text0 (by assumption) (by omega)).symm | exact (R47.rtext0 (by assumption) (by omega)).symm | exact (R47.text1 (by assumption) (by omega)).symm | exact (R47.rtext1 (by assumption) (by omega)).symm | exact (R47.text2 (by assumption) (by omega)).symm | exact (R47.rtext2 (by assumption) (by omega)).symm | exact (R47.text3 (by assumption) (by omega)).symm | exact (R47.rtext3 (by assumption) (by omega)).symm | exact (R47.text4 (by assumption) (by omega)).symm | exact (R47.rtext4 (by assumption) (by omega)).symm | exact (R47.text5 (by assumption) (by omega)).symm | exact (R47.rtext5 (by assumption) (by omega)).symm | exact (R47.text6 (by assumption) (by omega)).symm | exact (R47.rtext6 (by assumption) (by omega)).symm | exact (R47.text7 (by assumption) (by omega)).symm | exact (R47.rtext7 (by assumption) (by omega)).symm
          exact congrArg (fun (x0 : Bytes) => vS x0) e_x0
        · rfl
      · refine JA_ready (rs := [0, 4]) (by kernel_rfl) (by decide) (fun _ h => ⟨h.keep [false] rfl, fun _ => h⟩) (List.forall_mem_cons.2 ⟨?_, (List.forall_mem_cons.2 ⟨?_, all_nil⟩)⟩)
        · refine JI_call [] [] [Ent.blk b96 23 (Change.enc c)] rfl rfl trivial (fun _ => x_call Ty.ca34 rfl) (fun _ h => h) (fun _ h => by cases h) (fun w hS => f34_ok w) ?_
          rintro _ _ ⟨M101, B102, rfl, rfl⟩
          refine JA_ready (rs := [3, 4]) (by kernel_rfl) (by decide) (fun _ h => ⟨h.keep [false, false, false] rfl, fun _ => h.keep [false, false, true] rfl⟩) (List.forall_mem_cons.2 ⟨?_, (List.forall_mem_cons.2 ⟨?_, all_nil⟩)⟩)
          · refine JI_read (Value.agg #[vS [110, 111, 116, 101], vI 0, vI 0, vI 0, vI 400, vB true, Value.func (.func 54) #[] #[]]) rfl rfl trivial (x_lookup_v 0 (f := vI) (k := c.Kind) rfl rfl rfl Tryd.underlying63 (mapK_i Tryd.underlying3) Ty.ze61 (R47.look_at B102 (k := 7) hc (by decide)) rfl) ?_
            refine JA_one 4 (by kernel_rfl) (fun _ h => ⟨h.keep [false, false, false] rfl, fun _ => h.keep [false, false, true] rfl⟩) ?_
            refine JI_op rfl rfl trivial (O_alloc Ty.ze61 rfl fun b104 => ?_)
            refine JA_one 5 (by kernel_rfl) (fun _ h => ⟨h.keep [false, false, false, false] rfl, fun _ => h.keep [false, false, false, true] rfl⟩) ?_
            refine JI_op rfl rfl trivial (O_storeS (vs := [vS [110, 111, 116, 101], vI 0, vI 0, vI 0, vI 400, vB true, Value.func (.func 54) #[] #[]]) 0 [vS [110, 111, 116, 101], vI 0, vI 0, vI 0, vI 400, vB true, Value.func (.func 54) #[] #[]] [Ent.blk b104 61 [vS [110, 111, 116, 101], vI 0, vI 0, vI 0, vI 400, vB true, Value.func (.func 54) #[] #[]], Ent.mp vI M101 (R47.entries B102), Ent.blk B102 26 [Value.func (.func 53) #[] #[]], Ent.blk b96 23 (Change.enc c)] rfl rfl rfl Ty.sz61 rfl (Nat.le_of_ble_eq_true rfl) rfl rfl rfl ?_)
            exact JA_done (by kernel_rfl) (fun _ h => ⟨h.keep [false, false, false, false] rfl, fun hh => Bool.noConfusion (show false = true from hh)⟩) (JX_weaken (E' := [(1, Value.pointer (some ⟨b96, 0, none⟩)), (2, vS []), (3, Value.pointer (some ⟨b104, 0, none⟩))]) (L' := [Ent.blk b104 61 [vS [110, 111, 116, 101], vI 0, vI 0, vI 0, vI 400, vB true, Value.func (.func 54) #[] #[]], Ent.blk b96 23 (Change.enc c)]) ⟨rfl, rfl, rfl, trivial⟩ (fun _ h => h.keep [true, false, false, true] rfl) (key99 b104))
          · refine JI_op rfl rfl trivial (O_alloc Ty.ze61 rfl fun b105 => ?_)
            refine JA_one 3 (by kernel_rfl) (fun _ h => ⟨h.keep [false, false, false, false] rfl, fun _ => h.keep [false, false, false, true] rfl⟩) ?_
            refine JI_read (Value.agg #[vS [110, 111, 116, 101], vI 0, vI 0, vI 0, vI 400, vB true, Value.func (.func 54) #[] #[]]) rfl rfl trivial (x_lookup_v 1 (f := vI) (k := c.Kind) rfl rfl rfl Tryd.underlying63 (mapK_i Tryd.underlying3) Ty.ze61 (R47.look_at B102 (k := 7) hc (by decide)) rfl) ?_
            refine JA_one 5 (by kernel_rfl) (fun _ h => ⟨h.keep [false, false, false, false] rfl, fun _ => h.keep [false, false, false, true] rfl⟩) ?_
            refine JI_op rfl rfl trivial (O_storeS (vs := [vS [110, 111, 116, 101], vI 0, vI 0, vI 0, vI 400, vB true, Value.func (.func 54) #[] #[]]) 0 [vS [110, 111, 116, 101], vI 0, vI 0, vI 0, vI 400, vB true, Value.func (.func 54) #[] #[]] [Ent.blk b105 61 [vS [110, 111, 116, 101], vI 0, vI 0, vI 0, vI 400, vB true, Value.func (.func 54) #[] #[]], Ent.mp vI M101 (R47.entries B102), Ent.blk B102 26 [Value.func (.func 53) #[] #[]], Ent.blk b96 23 (Change.enc c)] rfl rfl rfl Ty.sz61 rfl (Nat.le_of_ble_eq_true rfl) rfl rfl rfl ?_)
            exact JA_done (by kernel_rfl) (fun _ h => ⟨h.keep [false, false, false, false] rfl, fun hh => Bool.noConfusion (show false = true from hh)⟩) (JX_weaken (E' := [(1, Value.pointer (some ⟨b96, 0, none⟩)), (2, vS []), (3, Value.pointer (some ⟨b105, 0, none⟩))]) (L' := [Ent.blk b105 61 [vS [110, 111, 116, 101], vI 0, vI 0, vI 0, vI 400, vB true, Value.func (.func 54) #[] #[]], Ent.blk b96 23 (Change.enc c)]) ⟨rfl, rfl, rfl, trivial⟩ (fun _ h => h.keep [true, false, false, true] rfl) (key99 b105))
        · refine JI_op rfl rfl trivial (O_alloc Ty.ze61 rfl fun b106 => ?_)
          refine JA_one 0 (by kernel_rfl) (fun _ h => ⟨h.keep [false, false] rfl, fun _ => h.keep [false, true] rfl⟩) ?_
          refine JI_call [] [] [Ent.blk b106 61 [vS [], vI 0, vI 0, vI 0, vI 0, vB false, Value.nilFunc], Ent.blk b96 23 (Change.enc c)] rfl rfl trivial (fun _ => x_call Ty.ca34 rfl) (fun _ h => h) (fun _ h => by cases h) (fun w hS => f34_ok w) ?_
          rintro _ _ ⟨M107, B108, rfl, rfl⟩
          refine JA_one 3 (by kernel_rfl) (fun _ h => ⟨h.keep [false, false, false, false] rfl, fun _ => h.keep [false, false, false, true] rfl⟩) ?_
          refine JI_read (Value.agg #[vS [110, 111, 116, 101], vI 0, vI 0, vI 0, vI 400, vB true, Value.func (.func 54) #[] #[]]) rfl rfl trivial (x_lookup_v 0 (f := vI) (k := c.Kind) rfl rfl rfl Tryd.underlying63 (mapK_i Tryd.underlying3) Ty.ze61 (R47.look_at B108 (k := 7) hc (by decide)) rfl) ?_
          refine JA_one 5 (by kernel_rfl) (fun _ h => ⟨h.keep [false, false, false, false] rfl, fun _ => h.keep [false, false, false, true] rfl⟩) ?_
          refine JI_op rfl rfl trivial (O_storeS (vs := [vS [110, 111, 116, 101], vI 0, vI 0, vI 0, vI 400, vB true, Value.func (.func 54) #[] #[]]) 2 [vS [110, 111, 116, 101], vI 0, vI 0, vI 0, vI 400, vB true, Value.func (.func 54) #[] #[]] [Ent.mp vI M107 (R47.entries B108), Ent.blk B108 26 [Value.func (.func 53) #[] #[]], Ent.blk b106 61 [vS [110, 111, 116, 101], vI 0, vI 0, vI 0, vI 400, vB true, Value.func (.func 54) #[] #[]], Ent.blk b96 23 (Change.enc c)] rfl rfl rfl Ty.sz61 rfl (Nat.le_of_ble_eq_true rfl) rfl rfl rfl ?_)
          exact JA_done (by kernel_rfl) (fun _ h => ⟨h.keep [false, false, false, false] rfl, fun hh => Bool.noConfusion (show false = true from hh)⟩) (JX_weaken (E' := [(1, Value.pointer (some ⟨b96, 0, none⟩)), (2, vS []), (3, Value.pointer (some ⟨b106, 0, none⟩))]) (L' := [Ent.blk b106 61 [vS [110, 111, 116, 101], vI 0, vI 0, vI 0, vI 400, vB true, Value.func (.func 54) #[] #[]], Ent.blk b96 23 (Change.enc c)]) ⟨rfl, rfl, rfl, trivial⟩ (fun _ h => h.keep [false, false, true, true] rfl) (key99 b106))
  · refine J_seq ?_
    refine J_region ?_
    refine JO_op rfl trivial (O_box rfl rfl fun b109 => ?_)
    refine JO_read (vS []) rfl trivial (fun _ _ => rfl) ?_
    refine JO_nil ?_
    refine JX_then ?_
    refine J_seq ?_
    refine J_seq ?_
    refine J_region ?_
    refine JO_read (Value.agg ((Change.enc c)).toArray) rfl trivial (x_loadN 0 (Change.enc c) rfl rfl Ty.ag23 Ty.sz23 rfl) ?_
    refine JO_call [] [] [Ent.blk b109 23 (Change.enc c)] rfl trivial (fun _ => x_call Ty.ca11 rfl) (fun _ h => h) (fun _ h => by cases h) (fun w hS => f11_ok c w hy_) ?_
    rintro _ _ ⟨rfl, rfl⟩
    refine JO_read (vB (!(R47.valid c))) rfl trivial (fun _ _ => x_not rfl) ?_
    refine JO_nil ?_
    refine JX_then ?_
    refine J_cond (!(R47.valid c)) rfl rfl (fun h110 => ?_) (fun h110 => ?_)
    · have h110 : (R47.valid c) = false := bnot_true h110
      refine J_seq ?_
      refine J_region ?_
      refine JO_read (vS []) rfl trivial (fun _ _ => rfl) ?_
      refine JO_nil ?_
      refine JX_then ?_
      refine J_ret ?_
      refine JX_then_ret ?_
      refine JX_rets [vS []] (vS []) Tryd.results13 (fun w h => ⟨rfl, trivial⟩) rfl [] (fun _ h => h.keep [false] rfl) ⟨?_, ?_⟩
      · have e_x0 : ([] : Bytes) = (R47.text c) := by
          first | exact (R47.text_no (by assumption)).symm | exact (R47.text0 (by assumption) (by omega)).symm | exact (R47.rtext0 (by assumption) (by omega)).symm | exact (R47.text1 (by assumption) (by omega)).symm | exact (R47.rtext1 (by assumption) (by omega)).symm | exact (R47.text2 (by assumption) (by omega)).symm | exact (R47.rtext2 (by assumption) (by omega)).symm | exact (R47.text3 (by assumption) (by omega)).symm | exact (R47.rtext3 (by assumption) (by omega)).symm | exact (R47.text4 (by assumption) (by omega)).symm | exact (R47.rtext4 (by assumption) (by omega)).symm | exact (R47.text5 (by assumption) (by omega)).symm | exact (R47.rtext5 (by assumption) (by omega)).symm | exact (R47.text6 (by assumption) (by omega)).symm | exact (R47.rtext6 (by assumption) (by omega)).symm | exact (R47.text7 (by assumption) (by omega)).symm | exact (R47.rtext7 (by assumption) (by omega)).symm
        exact congrArg (fun (x0 : Bytes) => vS x0) e_x0
      · rfl
    · have h110 : (R47.valid c) = true := bnot_false h110
      have hi111 := R47.valid_facts h110
      exact absurd ((htx hc).symm.trans (by assumption)) Bool.false_ne_true

set_option maxRecDepth 20000 in
theorem f14_ok (c : Change) (w : World) (q0 : c.Volume.length ≤ 9223372036854775807) : Calls Tryd.prog 14 #[Value.agg ((Change.enc c)).toArray] w (Gives [] w fun v L => v = vS (R47.text c) ∧ L = []) := by
  refine calls_J [] 81 Tryd.func14 rfl Tryd.ntmps14 [(0, Value.agg ((Change.enc c)).toArray)] rfl rfl (Give.nil w) ?_
  refine J_seq ?_
  refine J_region ?_
  refine JO_op rfl trivial (O_box rfl rfl fun b1 => ?_)
  refine JO_read (vS []) rfl trivial (fun _ _ => rfl) ?_
  refine JO_nil ?_
  refine JX_then ?_
  refine J_seq ?_
  refine J_seq ?_
  refine J_region ?_
  refine JO_read (Value.agg ((Change.enc c)).toArray) rfl trivial (x_loadN 0 (Change.enc c) rfl rfl Ty.ag23 Ty.sz23 rfl) ?_
  refine JO_call [] [] [Ent.blk b1 23 (Change.enc c)] rfl trivial (fun _ => x_call Ty.ca12 rfl) (fun _ h => h) (fun _ h => by cases h) (fun w hS => f12_ok c w hy_) ?_
  rintro _ _ ⟨rfl, rfl⟩
  refine JO_read (vB (!(R47.valid c))) rfl trivial (fun _ _ => x_not rfl) ?_
  refine JO_nil ?_
  refine JX_then ?_
  refine J_cond (!(R47.valid c)) rfl rfl (fun h2 => ?_) (fun h2 => ?_)
  · have h2 : (R47.valid c) = false := bnot_true h2
    refine J_seq ?_
    refine J_region ?_
    refine JO_read (vS []) rfl trivial (fun _ _ => rfl) ?_
    refine JO_nil ?_
    refine JX_then ?_
    refine J_ret ?_
    refine JX_then_ret ?_
    refine JX_rets [vS []] (vS []) Tryd.results14 (fun w h => ⟨rfl, trivial⟩) rfl [] (fun _ h => h.keep [false] rfl) ⟨?_, ?_⟩
    · have e_x0 : ([] : Bytes) = (R47.text c) := by
        first | exact (R47.text_no (by assumption)).symm | exact (R47.text0 (by assumption) (by omega)).symm | exact (R47.rtext0 (by assumption) (by omega)).symm | exact (R47.text1 (by assumption) (by omega)).symm | exact (R47.rtext1 (by assumption) (by omega)).symm | exact (R47.text2 (by assumption) (by omega)).symm | exact (R47.rtext2 (by assumption) (by omega)).symm | exact (R47.text3 (by assumption) (by omega)).symm | exact (R47.rtext3 (by assumption) (by omega)).symm | exact (R47.text4 (by assumption) (by omega)).symm | exact (R47.rtext4 (by assumption) (by omega)).symm | exact (R47.text5 (by assumption) (by omega)).symm | exact (R47.rtext5 (by assumption) (by omega)).symm | exact (R47.text6 (by assumption) (by omega)).symm | exact (R47.rtext6 (by assumption) (by omega)).symm | exact (R47.text7 (by assumption) (by omega)).symm | exact (R47.rtext7 (by assumption) (by omega)).symm
      exact congrArg (fun (x0 : Bytes) => vS x0) e_x0
    · rfl
  · have h2 : (R47.valid c) = true := bnot_false h2
    have hi3 := R47.valid_facts h2
    refine J_skip ?_
    refine JX_then ?_
    refine J_seq ?_
    refine J_region ?_
    refine JO_read (Value.pointer (some ⟨b1, 1, none⟩)) rfl trivial (fun _ _ => x_fieldAddr Ty.fi23_1 rfl rfl) ?_
    refine JO_read (vI c.Id) rfl trivial (x_load 0 rfl rfl Ty.sc3 rfl) ?_
    refine JO_call [] [] [Ent.blk b1 23 (Change.enc c)] rfl trivial (fun _ => x_call Ty.ca39 rfl) (fun _ h => h) (fun _ h => by cases h) (fun w hS => f39_ok c.Id w hy_ hy_) ?_
    rintro _ _ ⟨rfl, rfl⟩
    have ha4 := R47.dec_len c.Id (by omega)
    refine JO_read (vS ([32] ++ (Lib.decDigits c.Id.toNat))) rfl trivial (fun _ _ => x_cat_s rfl rfl (by first | omega | (simp only [List.length_append, List.length_cons, List.length_nil]; omega) | (simp; omega) | (simp_all; omega))) ?_
    refine JO_read (vS ([32] ++ (Lib.decDigits c.Id.toNat))) rfl trivial (fun _ _ => rfl) ?_
    refine JO_nil ?_
    refine JX_then ?_
    refine J_seq ?_
    refine J_seq ?_
    refine J_region ?_
    refine JO_read (Value.pointer (some ⟨b1, 0, none⟩)) rfl trivial (fun _ _ => x_fieldAddr Ty.fi23_0 rfl rfl) ?_
    refine JO_read (vI c.Kind) rfl trivial (x_load 0 rfl rfl Ty.sc3 rfl) ?_
    refine JO_nil ?_
    refine JX_then ?_
    refine J_block ?_
    refine J_seq ?_
    refine J_region ?_
    refine JO_read (vB (decide (c.Kind = 0))) rfl trivial (fun _ _ => x_eql_i rfl rfl) ?_
    refine JO_read (vB (decide (c.Kind = 0))) rfl trivial (fun _ _ => rfl) ?_
    refine JO_nil ?_
    refine JX_then ?_
    refine J_cond (decide (c.Kind = 0)) rfl rfl (fun h5 => ?_) (fun h5 => ?_)
    · have h5 := of_decide_eq_true h5
      refine J_seq ?_
      refine J_draw [Ent.blk b1 23 (Change.enc c)] [] [Ent.blk b1 23 (Change.enc c)] 14 Ty.mixed rfl ?_
      refine JA_take 0 (vS ([32] ++ (Lib.decDigits c.Id.toNat))) rfl (by kernel_rfl) (by kernel_rfl) (by kernel_rfl) rfl (fun _ _ _ h => h) rfl trivial (fun _ _ => rfl) ?_
      refine JA_take 1 (vS ([112, 117, 116] ++ ([32] ++ (Lib.decDigits c.Id.toNat)))) rfl (by kernel_rfl) (by kernel_rfl) (by kernel_rfl) rfl (fun _ _ _ h => h) rfl trivial (fun _ _ => x_cat_s rfl rfl (by first | omega | (simp only [List.length_append, List.length_cons, List.length_nil]; omega) | (simp; omega) | (simp_all; omega))) ?_
      refine JA_take 2 (vS (([112, 117, 116] ++ ([32] ++ (Lib.decDigits c.Id.toNat))) ++ [32])) rfl (by kernel_rfl) (by kernel_rfl) (by kernel_rfl) rfl (fun _ _ _ h => h) rfl trivial (fun _ _ => x_cat_s rfl rfl (by first | omega | (simp only [List.length_append, List.length_cons, List.length_nil]; omega) | (simp; omega) | (simp_all; omega))) ?_
      refine JA_take 3 (Value.pointer (some ⟨b1, 2, none⟩)) rfl (by kernel_rfl) (by kernel_rfl) (by kernel_rfl) rfl (fun _ _ _ h => h) rfl trivial (fun _ _ => x_fieldAddr Ty.fi23_2 rfl rfl) ?_
      refine JA_take 4 (vS c.Key) rfl (by kernel_rfl) (by kernel_rfl) (by kernel_rfl) rfl (fun _ _ _ h => h) rfl trivial (x_load 0 rfl rfl Ty.sc9 rfl) ?_
      refine JA_take 8 (Value.pointer (some ⟨b1, 3, none⟩)) rfl (by kernel_rfl) (by kernel_rfl) (by kernel_rfl) rfl (fun _ _ _ h => h) rfl trivial (fun _ _ => x_fieldAddr Ty.fi23_3 rfl rfl) ?_
      refine JA_take 9 (vS c.Record) rfl (by kernel_rfl) (by kernel_rfl) (by kernel_rfl) rfl (fun _ _ _ h => h) rfl trivial (x_load 0 rfl rfl Ty.sc9 rfl) ?_
      refine JA_take 10 (vI ((c.Record.length : Nat) : Int)) rfl (by kernel_rfl) (by kernel_rfl) (by kernel_rfl) rfl (fun _ _ _ h => h) rfl trivial (fun _ _ => x_len_s rfl Tryd.underlying9) ?_
      refine JA_one 5 (by kernel_rfl) (fun _ h => ⟨h, fun _ => h⟩) ?_
      refine JI_call [] [] [Ent.blk b1 23 (Change.enc c)] rfl rfl trivial (fun _ => x_call Ty.ca40 rfl) (fun _ h => h) (fun _ h => by cases h) (fun w hS => f40_ok c.Key w hy_) ?_
      rintro _ _ ⟨rfl, rfl⟩
      have ha6 := R47.hex_length c.Key
      refine JA_take 6 (vS ((([112, 117, 116] ++ ([32] ++ (Lib.decDigits c.Id.toNat))) ++ [32]) ++ (R47.hex c.Key))) rfl (by kernel_rfl) (by kernel_rfl) (by kernel_rfl) rfl (fun _ _ _ h => h) rfl trivial (fun _ _ => x_cat_s rfl rfl (by first | omega | (simp only [List.length_append, List.length_cons, List.length_nil]; omega) | (simp; omega) | (simp_all; omega))) ?_
      refine JA_take 7 (vS (((([112, 117, 116] ++ ([32] ++ (Lib.decDigits c.Id.toNat))) ++ [32]) ++ (R47.hex c.Key)) ++ [32])) rfl (by kernel_rfl) (by kernel_rfl) (by kernel_rfl) rfl (fun _ _ _ h => h) rfl trivial (fun _ _ => x_cat_s rfl rfl (by first | omega | (simp only [List.length_append, List.length_cons, List.length_nil]; omega) | (simp; omega) | (simp_all; omega))) ?_
      refine JA_one 11 (by kernel_rfl) (fun _ h => ⟨h, fun _ => h⟩) ?_
      refine JI_call [] [] [Ent.blk b1 23 (Change.enc c)] rfl rfl trivial (fun _ => x_call Ty.ca39 rfl) (fun _ h => h) (fun _ h => by cases h) (fun w hS => f39_ok ((c.Record.length : Nat) : Int) w hy_ hy_) ?_
      rintro _ _ ⟨rfl, rfl⟩
      have ha7 := R47.dec_len ((c.Record.length : Nat) : Int) (by omega)
      refine JA_take 12 (vS ((((([112, 117, 116] ++ ([32] ++ (Lib.decDigits c.Id.toNat))) ++ [32]) ++ (R47.hex c.Key)) ++ [32]) ++ (Lib.decDigits ((c.Record.length : Nat) : Int).toNat))) rfl (by kernel_rfl) (by kernel_rfl) (by kernel_rfl) rfl (fun _ _ _ h => h) rfl trivial (fun _ _ => x_cat_s rfl rfl (by first | omega | (simp only [List.length_append, List.length_cons, List.length_nil]; omega) | (simp; omega) | (simp_all; omega))) ?_
      refine JA_take 13 (vS ((((([112, 117, 116] ++ ([32] ++ (Lib.decDigits c.Id.toNat))) ++ [32]) ++ (R47.hex c.Key)) ++ [32]) ++ (Lib.decDigits ((c.Record.length : Nat) : Int).toNat))) rfl (by kernel_rfl) (by kernel_rfl) (by kernel_rfl) rfl (fun _ _ _ h => h) rfl trivial (fun _ _ => rfl) ?_
      refine JA_done (by kernel_rfl) (fun _ h => ⟨h, fun _ => h⟩) ?_
      refine JX_then ?_
      refine J_ret ?_
      refine JX_block_ret ?_
      refine JX_then_ret ?_
      refine JX_rets [vS ((((([112, 117, 116] ++ ([32] ++ (Lib.decDigits c.Id.toNat))) ++ [32]) ++ (R47.hex c.Key)) ++ [32]) ++ (Lib.decDigits ((c.Record.length : Nat) : Int).toNat))] (vS ((((([112, 117, 116] ++ ([32] ++ (Lib.decDigits c.Id.toNat))) ++ [32]) ++ (R47.hex c.Key)) ++ [32]) ++ (Lib.decDigits ((c.Record.length : Nat) : Int).toNat))) Tryd.results14 (fun w h => ⟨rfl, trivial⟩) rfl [] (fun _ h => h.keep [false] rfl) ⟨?_, ?_⟩
      · have e_x0 : ((((([112, 117, 116] ++ ([32] ++ (Lib.decDigits c.Id.toNat))) ++ [32]) ++ (R47.hex c.Key)) ++ [32]) ++ (Lib.decDigits ((c.Record.length : Nat) : Int).toNat) : Bytes) = (R47.text c) := by
          first | exact (R47.text_no (by assumption)).symm | exact (R47.text0 (by assumption) (by omega)).symm | exact (R47.rtext0 (by assumption) (by omega)).symm | exact (R47.text1 (by assumption) (by omega)).symm | exact (R47.rtext1 (by assumption) (by omega)).symm | exact (R47.text2 (by assumption) (by omega)).symm | exact (R47.rtext2 (by assumption) (by omega)).symm | exact (R47.text3 (by assumption) (by omega)).symm | exact (R47.rtext3 (by assumption) (by omega)).symm | exact (R47.text4 (by assumption) (by omega)).symm | exact (R47.rtext4 (by assumption) (by omega)).symm | exact (R47.text5 (by assumption) (by omega)).symm | exact (R47.rtext5 (by assumption) (by omega)).symm | exact (R47.text6 (by assumption) (by omega)).symm | exact (R47.rtext6 (by assumption) (by omega)).symm | exact (R47.text7 (by assumption) (by omega)).symm | exact (R47.rtext7 (by assumption) (by omega)).symm
        exact congrArg (fun (x0 : Bytes) => vS x0) e_x0
      · rfl
    · have h5 := of_decide_eq_false h5
      refine J_seq ?_
      refine J_region ?_
      refine JO_read (vB (decide (c.Kind = 1))) rfl trivial (fun _ _ => x_eql_i rfl rfl) ?_
      refine JO_read (vB (decide (c.Kind = 1))) rfl trivial (fun _ _ => rfl) ?_
      refine JO_nil ?_
      refine JX_then ?_
      refine J_cond (decide (c.Kind = 1)) rfl rfl (fun h8 => ?_) (fun h8 => ?_)
      · have h8 := of_decide_eq_true h8
        refine J_seq ?_
        refine J_region ?_
        refine JO_read (vS ([32] ++ (Lib.decDigits c.Id.toNat))) rfl trivial (fun _ _ => rfl) ?_
        refine JO_read (vS ([101, 114, 97, 115, 101] ++ ([32] ++ (Lib.decDigits c.Id.toNat)))) rfl trivial (fun _ _ => x_cat_s rfl rfl (by first | omega | (simp only [List.length_append, List.length_cons, List.length_nil]; omega) | (simp; omega) | (simp_all; omega))) ?_
        refine JO_read (vS (([101, 114, 97, 115, 101] ++ ([32] ++ (Lib.decDigits c.Id.toNat))) ++ [32])) rfl trivial (fun _ _ => x_cat_s rfl rfl (by first | omega | (simp only [List.length_append, List.length_cons, List.length_nil]; omega) | (simp; omega) | (simp_all; omega))) ?_
        refine JO_read (Value.pointer (some ⟨b1, 2, none⟩)) rfl trivial (fun _ _ => x_fieldAddr Ty.fi23_2 rfl rfl) ?_
        refine JO_read (vS c.Key) rfl trivial (x_load 0 rfl rfl Ty.sc9 rfl) ?_
        refine JO_call [] [] [Ent.blk b1 23 (Change.enc c)] rfl trivial (fun _ => x_call Ty.ca40 rfl) (fun _ h => h) (fun _ h => by cases h) (fun w hS => f40_ok c.Key w hy_) ?_
        rintro _ _ ⟨rfl, rfl⟩
        have ha9 := R47.hex_length c.Key
        refine JO_read (vS ((([101, 114, 97, 115, 101] ++ ([32] ++ (Lib.decDigits c.Id.toNat))) ++ [32]) ++ (R47.hex c.Key))) rfl trivial (fun _ _ => x_cat_s rfl rfl (by first | omega | (simp only [List.length_append, List.length_cons, List.length_nil]; omega) | (simp; omega) | (simp_all; omega))) ?_
        refine JO_read (vS ((([101, 114, 97, 115, 101] ++ ([32] ++ (Lib.decDigits c.Id.toNat))) ++ [32]) ++ (R47.hex c.Key))) rfl trivial (fun _ _ => rfl) ?_
        refine JO_nil ?_
        refine JX_then ?_
        refine J_ret ?_
        refine JX_block_ret ?_
        refine JX_then_ret ?_
        refine JX_rets [vS ((([101, 114, 97, 115, 101] ++ ([32] ++ (Lib.decDigits c.Id.toNat))) ++ [32]) ++ (R47.hex c.Key))] (vS ((([101, 114, 97, 115, 101] ++ ([32] ++ (Lib.decDigits c.Id.toNat))) ++ [32]) ++ (R47.hex c.Key))) Tryd.results14 (fun w h => ⟨rfl, trivial⟩) rfl [] (fun _ h => h.keep [false] rfl) ⟨?_, ?_⟩
        · have e_x0 : ((([101, 114, 97, 115, 101] ++ ([32] ++ (Lib.decDigits c.Id.toNat))) ++ [32]) ++ (R47.hex c.Key) : Bytes) = (R47.text c) := by
            first | exact (R47.text_no (by assumption)).symm | exact (R47.text0 (by assumption) (by omega)).symm | exact (R47.rtext0 (by assumption) (by omega)).symm | exact (R47.text1 (by assumption) (by omega)).symm | exact (R47.rtext1 (by assumption) (by omega)).symm | exact (R47.text2 (by assumption) (by omega)).symm | exact (R47.rtext2 (by assumption) (by omega)).symm | exact (R47.text3 (by assumption) (by omega)).symm | exact (R47.rtext3 (by assumption) (by omega)).symm | exact (R47.text4 (by assumption) (by omega)).symm | exact (R47.rtext4 (by assumption) (by omega)).symm | exact (R47.text5 (by assumption) (by omega)).symm | exact (R47.rtext5 (by assumption) (by omega)).symm | exact (R47.text6 (by assumption) (by omega)).symm | exact (R47.rtext6 (by assumption) (by omega)).symm | exact (R47.text7 (by assumption) (by omega)).symm | exact (R47.rtext7 (by assumption) (by omega)).symm
          exact congrArg (fun (x0 : Bytes) => vS x0) e_x0
        · rfl
      · have h8 := of_decide_eq_false h8
        refine J_seq ?_
        refine J_region ?_
        refine JO_read (vB (decide (c.Kind = 2))) rfl trivial (fun _ _ => x_eql_i rfl rfl) ?_
        refine JO_read (vB (decide (c.Kind = 2))) rfl trivial (fun _ _ => rfl) ?_
        refine JO_nil ?_
        refine JX_then ?_
        refine J_cond (decide (c.Kind = 2)) rfl rfl (fun h10 => ?_) (fun h10 => ?_)
        · have h10 := of_decide_eq_true h10
          refine J_seq ?_
          refine J_region ?_
          refine JO_read (vS ([32] ++ (Lib.decDigits c.Id.toNat))) rfl trivial (fun _ _ => rfl) ?_
          refine JO_read (vS ([97, 112, 112, 101, 110, 100] ++ ([32] ++ (Lib.decDigits c.Id.toNat)))) rfl trivial (fun _ _ => x_cat_s rfl rfl (by first | omega | (simp only [List.length_append, List.length_cons, List.length_nil]; omega) | (simp; omega) | (simp_all; omega))) ?_
          refine JO_read (vS (([97, 112, 112, 101, 110, 100] ++ ([32] ++ (Lib.decDigits c.Id.toNat))) ++ [32])) rfl trivial (fun _ _ => x_cat_s rfl rfl (by first | omega | (simp only [List.length_append, List.length_cons, List.length_nil]; omega) | (simp; omega) | (simp_all; omega))) ?_
          refine JO_read (Value.pointer (some ⟨b1, 3, none⟩)) rfl trivial (fun _ _ => x_fieldAddr Ty.fi23_3 rfl rfl) ?_
          refine JO_read (vS c.Record) rfl trivial (x_load 0 rfl rfl Ty.sc9 rfl) ?_
          refine JO_read (vI ((c.Record.length : Nat) : Int)) rfl trivial (fun _ _ => x_len_s rfl Tryd.underlying9) ?_
          refine JO_call [] [] [Ent.blk b1 23 (Change.enc c)] rfl trivial (fun _ => x_call Ty.ca39 rfl) (fun _ h => h) (fun _ h => by cases h) (fun w hS => f39_ok ((c.Record.length : Nat) : Int) w hy_ hy_) ?_
          rintro _ _ ⟨rfl, rfl⟩
          have ha11 := R47.dec_len ((c.Record.length : Nat) : Int) (by omega)
          refine JO_read (vS ((([97, 112, 112, 101, 110, 100] ++ ([32] ++ (Lib.decDigits c.Id.toNat))) ++ [32]) ++ (Lib.decDigits ((c.Record.length : Nat) : Int).toNat))) rfl trivial (fun _ _ => x_cat_s rfl rfl (by first | omega | (simp only [List.length_append, List.length_cons, List.length_nil]; omega) | (simp; omega) | (simp_all; omega))) ?_
          refine JO_read (vS ((([97, 112, 112, 101, 110, 100] ++ ([32] ++ (Lib.decDigits c.Id.toNat))) ++ [32]) ++ (Lib.decDigits ((c.Record.length : Nat) : Int).toNat))) rfl trivial (fun _ _ => rfl) ?_
          refine JO_nil ?_
          refine JX_then ?_
          refine J_ret ?_
          refine JX_block_ret ?_
          refine JX_then_ret ?_
          refine JX_rets [vS ((([97, 112, 112, 101, 110, 100] ++ ([32] ++ (Lib.decDigits c.Id.toNat))) ++ [32]) ++ (Lib.decDigits ((c.Record.length : Nat) : Int).toNat))] (vS ((([97, 112, 112, 101, 110, 100] ++ ([32] ++ (Lib.decDigits c.Id.toNat))) ++ [32]) ++ (Lib.decDigits ((c.Record.length : Nat) : Int).toNat))) Tryd.results14 (fun w h => ⟨rfl, trivial⟩) rfl [] (fun _ h => h.keep [false] rfl) ⟨?_, ?_⟩
          · have e_x0 : ((([97, 112, 112, 101, 110, 100] ++ ([32] ++ (Lib.decDigits c.Id.toNat))) ++ [32]) ++ (Lib.decDigits ((c.Record.length : Nat) : Int).toNat) : Bytes) = (R47.text c) := by
              first | exact (R47.text_no (by assumption)).symm | exact (R47.text0 (by assumption) (by omega)).symm | exact (R47.rtext0 (by assumption) (by omega)).symm | exact (R47.text1 (by assumption) (by omega)).symm | exact (R47.rtext1 (by assumption) (by omega)).symm | exact (R47.text2 (by assumption) (by omega)).symm | exact (R47.rtext2 (by assumption) (by omega)).symm | exact (R47.text3 (by assumption) (by omega)).symm | exact (R47.rtext3 (by assumption) (by omega)).symm | exact (R47.text4 (by assumption) (by omega)).symm | exact (R47.rtext4 (by assumption) (by omega)).symm | exact (R47.text5 (by assumption) (by omega)).symm | exact (R47.rtext5 (by assumption) (by omega)).symm | exact (R47.text6 (by assumption) (by omega)).symm | exact (R47.rtext6 (by assumption) (by omega)).symm | exact (R47.text7 (by assumption) (by omega)).symm | exact (R47.rtext7 (by assumption) (by omega)).symm
            exact congrArg (fun (x0 : Bytes) => vS x0) e_x0
          · rfl
        · have h10 := of_decide_eq_false h10
          refine J_seq ?_
          refine J_region ?_
          refine JO_read (vB (decide (c.Kind = 3))) rfl trivial (fun _ _ => x_eql_i rfl rfl) ?_
          refine JO_read (vB (decide (c.Kind = 3))) rfl trivial (fun _ _ => rfl) ?_
          refine JO_nil ?_
          refine JX_then ?_
          refine J_cond (decide (c.Kind = 3)) rfl rfl (fun h12 => ?_) (fun h12 => ?_)
          · have h12 := of_decide_eq_true h12
            refine J_seq ?_
            refine J_region ?_
            refine JO_read (vS ([32] ++ (Lib.decDigits c.Id.toNat))) rfl trivial (fun _ _ => rfl) ?_
            refine JO_read (vS ([101, 109, 112, 116, 121] ++ ([32] ++ (Lib.decDigits c.Id.toNat)))) rfl trivial (fun _ _ => x_cat_s rfl rfl (by first | omega | (simp only [List.length_append, List.length_cons, List.length_nil]; omega) | (simp; omega) | (simp_all; omega))) ?_
            refine JO_read (vS ([101, 109, 112, 116, 121] ++ ([32] ++ (Lib.decDigits c.Id.toNat)))) rfl trivial (fun _ _ => rfl) ?_
            refine JO_nil ?_
            refine JX_then ?_
            refine J_ret ?_
            refine JX_block_ret ?_
            refine JX_then_ret ?_
            refine JX_rets [vS ([101, 109, 112, 116, 121] ++ ([32] ++ (Lib.decDigits c.Id.toNat)))] (vS ([101, 109, 112, 116, 121] ++ ([32] ++ (Lib.decDigits c.Id.toNat)))) Tryd.results14 (fun w h => ⟨rfl, trivial⟩) rfl [] (fun _ h => h.keep [false] rfl) ⟨?_, ?_⟩
            · have e_x0 : ([101, 109, 112, 116, 121] ++ ([32] ++ (Lib.decDigits c.Id.toNat)) : Bytes) = (R47.text c) := by
                first | exact (R47.text_no (by assumption)).symm | exact (R47.text0 (by assumption) (by omega)).symm | exact (R47.rtext0 (by assumption) (by omega)).symm | exact (R47.text1 (by assumption) (by omega)).symm | exact (R47.rtext1 (by assumption) (by omega)).symm | exact (R47.text2 (by assumption) (by omega)).symm | exact (R47.rtext2 (by assumption) (by omega)).symm | exact (R47.text3 (by assumption) (by omega)).symm | exact (R47.rtext3 (by assumption) (by omega)).symm | exact (R47.text4 (by assumption) (by omega)).symm | exact (R47.rtext4 (by assumption) (by omega)).symm | exact (R47.text5 (by assumption) (by omega)).symm | exact (R47.rtext5 (by assumption) (by omega)).symm | exact (R47.text6 (by assumption) (by omega)).symm | exact (R47.rtext6 (by assumption) (by omega)).symm | exact (R47.text7 (by assumption) (by omega)).symm | exact (R47.rtext7 (by assumption) (by omega)).symm
              exact congrArg (fun (x0 : Bytes) => vS x0) e_x0
            · rfl
          · have h12 := of_decide_eq_false h12
            refine J_seq ?_
            refine J_region ?_
            refine JO_read (vB (decide (c.Kind = 4))) rfl trivial (fun _ _ => x_eql_i rfl rfl) ?_
            refine JO_read (vB (decide (c.Kind = 4))) rfl trivial (fun _ _ => rfl) ?_
            refine JO_nil ?_
            refine JX_then ?_
            refine J_cond (decide (c.Kind = 4)) rfl rfl (fun h13 => ?_) (fun h13 => ?_)
            · have h13 := of_decide_eq_true h13
              refine J_seq ?_
              refine J_region ?_
              refine JO_read (vS ([32] ++ (Lib.decDigits c.Id.toNat))) rfl trivial (fun _ _ => rfl) ?_
              refine JO_read (vS ([99, 114, 101, 97, 116, 101] ++ ([32] ++ (Lib.decDigits c.Id.toNat)))) rfl trivial (fun _ _ => x_cat_s rfl rfl (by first | omega | (simp only [List.length_append, List.length_cons, List.length_nil]; omega) | (simp; omega) | (simp_all; omega))) ?_
              refine JO_read (vS (([99, 114, 101, 97, 116, 101] ++ ([32] ++ (Lib.decDigits c.Id.toNat))) ++ [32])) rfl trivial (fun _ _ => x_cat_s rfl rfl (by first | omega | (simp only [List.length_append, List.length_cons, List.length_nil]; omega) | (simp; omega) | (simp_all; omega))) ?_
              refine JO_read (Value.pointer (some ⟨b1, 4, none⟩)) rfl trivial (fun _ _ => x_fieldAddr Ty.fi23_4 rfl rfl) ?_
              refine JO_read (vS c.Volume) rfl trivial (x_load 0 rfl rfl Ty.sc9 rfl) ?_
              refine JO_read (vS ((([99, 114, 101, 97, 116, 101] ++ ([32] ++ (Lib.decDigits c.Id.toNat))) ++ [32]) ++ c.Volume)) rfl trivial (fun _ _ => x_cat_s rfl rfl (by first | omega | (simp only [List.length_append, List.length_cons, List.length_nil]; omega) | (simp; omega) | (simp_all; omega))) ?_
              refine JO_read (vS ((([99, 114, 101, 97, 116, 101] ++ ([32] ++ (Lib.decDigits c.Id.toNat))) ++ [32]) ++ c.Volume)) rfl trivial (fun _ _ => rfl) ?_
              refine JO_nil ?_
              refine JX_then ?_
              refine J_ret ?_
              refine JX_block_ret ?_
              refine JX_then_ret ?_
              refine JX_rets [vS ((([99, 114, 101, 97, 116, 101] ++ ([32] ++ (Lib.decDigits c.Id.toNat))) ++ [32]) ++ c.Volume)] (vS ((([99, 114, 101, 97, 116, 101] ++ ([32] ++ (Lib.decDigits c.Id.toNat))) ++ [32]) ++ c.Volume)) Tryd.results14 (fun w h => ⟨rfl, trivial⟩) rfl [] (fun _ h => h.keep [false] rfl) ⟨?_, ?_⟩
              · have e_x0 : ((([99, 114, 101, 97, 116, 101] ++ ([32] ++ (Lib.decDigits c.Id.toNat))) ++ [32]) ++ c.Volume : Bytes) = (R47.text c) := by
                  first | exact (R47.text_no (by assumption)).symm | exact (R47.text0 (by assumption) (by omega)).symm | exact (R47.rtext0 (by assumption) (by omega)).symm | exact (R47.text1 (by assumption) (by omega)).symm | exact (R47.rtext1 (by assumption) (by omega)).symm | exact (R47.text2 (by assumption) (by omega)).symm | exact (R47.rtext2 (by assumption) (by omega)).symm | exact (R47.text3 (by assumption) (by omega)).symm | exact (R47.rtext3 (by assumption) (by omega)).symm | exact (R47.text4 (by assumption) (by omega)).symm | exact (R47.rtext4 (by assumption) (by omega)).symm | exact (R47.text5 (by assumption) (by omega)).symm | exact (R47.rtext5 (by assumption) (by omega)).symm | exact (R47.text6 (by assumption) (by omega)).symm | exact (R47.rtext6 (by assumption) (by omega)).symm | exact (R47.text7 (by assumption) (by omega)).symm | exact (R47.rtext7 (by assumption) (by omega)).symm
                exact congrArg (fun (x0 : Bytes) => vS x0) e_x0
              · rfl
            · have h13 := of_decide_eq_false h13
              refine J_seq ?_
              refine J_region ?_
              refine JO_read (vB (decide (c.Kind = 5))) rfl trivial (fun _ _ => x_eql_i rfl rfl) ?_
              refine JO_read (vB (decide (c.Kind = 5))) rfl trivial (fun _ _ => rfl) ?_
              refine JO_nil ?_
              refine JX_then ?_
              refine J_cond (decide (c.Kind = 5)) rfl rfl (fun h14 => ?_) (fun h14 => ?_)
              · have h14 := of_decide_eq_true h14
                refine J_seq ?_
                refine J_region ?_
                refine JO_read (vS ([32] ++ (Lib.decDigits c.Id.toNat))) rfl trivial (fun _ _ => rfl) ?_
                refine JO_read (vS ([114, 101, 109, 111, 118, 101] ++ ([32] ++ (Lib.decDigits c.Id.toNat)))) rfl trivial (fun _ _ => x_cat_s rfl rfl (by first | omega | (simp only [List.length_append, List.length_cons, List.length_nil]; omega) | (simp; omega) | (simp_all; omega))) ?_
                refine JO_read (vS (([114, 101, 109, 111, 118, 101] ++ ([32] ++ (Lib.decDigits c.Id.toNat))) ++ [32])) rfl trivial (fun _ _ => x_cat_s rfl rfl (by first | omega | (simp only [List.length_append, List.length_cons, List.length_nil]; omega) | (simp; omega) | (simp_all; omega))) ?_
                refine JO_read (Value.pointer (some ⟨b1, 4, none⟩)) rfl trivial (fun _ _ => x_fieldAddr Ty.fi23_4 rfl rfl) ?_
                refine JO_read (vS c.Volume) rfl trivial (x_load 0 rfl rfl Ty.sc9 rfl) ?_
                refine JO_read (vS ((([114, 101, 109, 111, 118, 101] ++ ([32] ++ (Lib.decDigits c.Id.toNat))) ++ [32]) ++ c.Volume)) rfl trivial (fun _ _ => x_cat_s rfl rfl (by first | omega | (simp only [List.length_append, List.length_cons, List.length_nil]; omega) | (simp; omega) | (simp_all; omega))) ?_
                refine JO_read (vS ((([114, 101, 109, 111, 118, 101] ++ ([32] ++ (Lib.decDigits c.Id.toNat))) ++ [32]) ++ c.Volume)) rfl trivial (fun _ _ => rfl) ?_
                refine JO_nil ?_
                refine JX_then ?_
                refine J_ret ?_
                refine JX_block_ret ?_
                refine JX_then_ret ?_
                refine JX_rets [vS ((([114, 101, 109, 111, 118, 101] ++ ([32] ++ (Lib.decDigits c.Id.toNat))) ++ [32]) ++ c.Volume)] (vS ((([114, 101, 109, 111, 118, 101] ++ ([32] ++ (Lib.decDigits c.Id.toNat))) ++ [32]) ++ c.Volume)) Tryd.results14 (fun w h => ⟨rfl, trivial⟩) rfl [] (fun _ h => h.keep [false] rfl) ⟨?_, ?_⟩
                · have e_x0 : ((([114, 101, 109, 111, 118, 101] ++ ([32] ++ (Lib.decDigits c.Id.toNat))) ++ [32]) ++ c.Volume : Bytes) = (R47.text c) := by
                    first | exact (R47.text_no (by assumption)).symm | exact (R47.text0 (by assumption) (by omega)).symm | exact (R47.rtext0 (by assumption) (by omega)).symm | exact (R47.text1 (by assumption) (by omega)).symm | exact (R47.rtext1 (by assumption) (by omega)).symm | exact (R47.text2 (by assumption) (by omega)).symm | exact (R47.rtext2 (by assumption) (by omega)).symm | exact (R47.text3 (by assumption) (by omega)).symm | exact (R47.rtext3 (by assumption) (by omega)).symm | exact (R47.text4 (by assumption) (by omega)).symm | exact (R47.rtext4 (by assumption) (by omega)).symm | exact (R47.text5 (by assumption) (by omega)).symm | exact (R47.rtext5 (by assumption) (by omega)).symm | exact (R47.text6 (by assumption) (by omega)).symm | exact (R47.rtext6 (by assumption) (by omega)).symm | exact (R47.text7 (by assumption) (by omega)).symm | exact (R47.rtext7 (by assumption) (by omega)).symm
                  exact congrArg (fun (x0 : Bytes) => vS x0) e_x0
                · rfl
              · have h14 := of_decide_eq_false h14
                refine J_seq ?_
                refine J_region ?_
                refine JO_read (vB (decide (c.Kind = 6))) rfl trivial (fun _ _ => x_eql_i rfl rfl) ?_
                refine JO_read (vB (decide (c.Kind = 6))) rfl trivial (fun _ _ => rfl) ?_
                refine JO_nil ?_
                refine JX_then ?_
                refine J_cond (decide (c.Kind = 6)) rfl rfl (fun h15 => ?_) (fun h15 => ?_)
                · have h15 := of_decide_eq_true h15
                  refine J_seq ?_
                  refine J_region ?_
                  refine JO_read (vS ([32] ++ (Lib.decDigits c.Id.toNat))) rfl trivial (fun _ _ => rfl) ?_
                  refine JO_read (vS ([109, 111, 118, 101] ++ ([32] ++ (Lib.decDigits c.Id.toNat)))) rfl trivial (fun _ _ => x_cat_s rfl rfl (by first | omega | (simp only [List.length_append, List.length_cons, List.length_nil]; omega) | (simp; omega) | (simp_all; omega))) ?_
                  refine JO_read (vS (([109, 111, 118, 101] ++ ([32] ++ (Lib.decDigits c.Id.toNat))) ++ [32])) rfl trivial (fun _ _ => x_cat_s rfl rfl (by first | omega | (simp only [List.length_append, List.length_cons, List.length_nil]; omega) | (simp; omega) | (simp_all; omega))) ?_
                  refine JO_read (Value.pointer (some ⟨b1, 4, none⟩)) rfl trivial (fun _ _ => x_fieldAddr Ty.fi23_4 rfl rfl) ?_
                  refine JO_read (vS c.Volume) rfl trivial (x_load 0 rfl rfl Ty.sc9 rfl) ?_
                  refine JO_read (vS ((([109, 111, 118, 101] ++ ([32] ++ (Lib.decDigits c.Id.toNat))) ++ [32]) ++ c.Volume)) rfl trivial (fun _ _ => x_cat_s rfl rfl (by first | omega | (simp only [List.length_append, List.length_cons, List.length_nil]; omega) | (simp; omega) | (simp_all; omega))) ?_
                  refine JO_read (vS ((([109, 111, 118, 101] ++ ([32] ++ (Lib.decDigits c.Id.toNat))) ++ [32]) ++ c.Volume)) rfl trivial (fun _ _ => rfl) ?_
                  refine JO_nil ?_
                  refine JX_then ?_
                  refine J_ret ?_
                  refine JX_block_ret ?_
                  refine JX_then_ret ?_
                  refine JX_rets [vS ((([109, 111, 118, 101] ++ ([32] ++ (Lib.decDigits c.Id.toNat))) ++ [32]) ++ c.Volume)] (vS ((([109, 111, 118, 101] ++ ([32] ++ (Lib.decDigits c.Id.toNat))) ++ [32]) ++ c.Volume)) Tryd.results14 (fun w h => ⟨rfl, trivial⟩) rfl [] (fun _ h => h.keep [false] rfl) ⟨?_, ?_⟩
                  · have e_x0 : ((([109, 111, 118, 101] ++ ([32] ++ (Lib.decDigits c.Id.toNat))) ++ [32]) ++ c.Volume : Bytes) = (R47.text c) := by
                      first | exact (R47.text_no (by assumption)).symm | exact (R47.text0 (by assumption) (by omega)).symm | exact (R47.rtext0 (by assumption) (by omega)).symm | exact (R47.text1 (by assumption) (by omega)).symm | exact (R47.rtext1 (by assumption) (by omega)).symm | exact (R47.text2 (by assumption) (by omega)).symm | exact (R47.rtext2 (by assumption) (by omega)).symm | exact (R47.text3 (by assumption) (by omega)).symm | exact (R47.rtext3 (by assumption) (by omega)).symm | exact (R47.text4 (by assumption) (by omega)).symm | exact (R47.rtext4 (by assumption) (by omega)).symm | exact (R47.text5 (by assumption) (by omega)).symm | exact (R47.rtext5 (by assumption) (by omega)).symm | exact (R47.text6 (by assumption) (by omega)).symm | exact (R47.rtext6 (by assumption) (by omega)).symm | exact (R47.text7 (by assumption) (by omega)).symm | exact (R47.rtext7 (by assumption) (by omega)).symm
                    exact congrArg (fun (x0 : Bytes) => vS x0) e_x0
                  · rfl
                · have h15 := of_decide_eq_false h15
                  refine J_skip ?_
                  refine JX_block ?_
                  refine JX_then ?_
                  refine J_seq ?_
                  refine J_region ?_
                  refine JO_read (vS ([32] ++ (Lib.decDigits c.Id.toNat))) rfl trivial (fun _ _ => rfl) ?_
                  refine JO_read (vS ([110, 111, 116, 101] ++ ([32] ++ (Lib.decDigits c.Id.toNat)))) rfl trivial (fun _ _ => x_cat_s rfl rfl (by first | omega | (simp only [List.length_append, List.length_cons, List.length_nil]; omega) | (simp; omega) | (simp_all; omega))) ?_
                  refine JO_read (vS (([110, 111, 116, 101] ++ ([32] ++ (Lib.decDigits c.Id.toNat))) ++ [32])) rfl trivial (fun _ _ => x_cat_s rfl rfl (by first | omega | (simp only [List.length_append, List.length_cons, List.length_nil]; omega) | (simp; omega) | (simp_all; omega))) ?_
                  refine JO_read (Value.pointer (some ⟨b1, 4, none⟩)) rfl trivial (fun _ _ => x_fieldAddr Ty.fi23_4 rfl rfl) ?_
                  refine JO_read (vS c.Volume) rfl trivial (x_load 0 rfl rfl Ty.sc9 rfl) ?_
                  refine JO_read (vS ((([110, 111, 116, 101] ++ ([32] ++ (Lib.decDigits c.Id.toNat))) ++ [32]) ++ c.Volume)) rfl trivial (fun _ _ => x_cat_s rfl rfl (by first | omega | (simp only [List.length_append, List.length_cons, List.length_nil]; omega) | (simp; omega) | (simp_all; omega))) ?_
                  refine JO_read (vS ((([110, 111, 116, 101] ++ ([32] ++ (Lib.decDigits c.Id.toNat))) ++ [32]) ++ c.Volume)) rfl trivial (fun _ _ => rfl) ?_
                  refine JO_nil ?_
                  refine JX_then ?_
                  refine J_ret ?_
                  refine JX_rets [vS ((([110, 111, 116, 101] ++ ([32] ++ (Lib.decDigits c.Id.toNat))) ++ [32]) ++ c.Volume)] (vS ((([110, 111, 116, 101] ++ ([32] ++ (Lib.decDigits c.Id.toNat))) ++ [32]) ++ c.Volume)) Tryd.results14 (fun w h => ⟨rfl, trivial⟩) rfl [] (fun _ h => h.keep [false] rfl) ⟨?_, ?_⟩
                  · have e_x0 : ((([110, 111, 116, 101] ++ ([32] ++ (Lib.decDigits c.Id.toNat))) ++ [32]) ++ c.Volume : Bytes) = (R47.text c) := by
                      first | exact (R47.text_no (by assumption)).symm | exact (R47.text0 (by assumption) (by omega)).symm | exact (R47.rtext0 (by assumption) (by omega)).symm | exact (R47.text1 (by assumption) (by omega)).symm | exact (R47.rtext1 (by assumption) (by omega)).symm | exact (R47.text2 (by assumption) (by omega)).symm | exact (R47.rtext2 (by assumption) (by omega)).symm | exact (R47.text3 (by assumption) (by omega)).symm | exact (R47.rtext3 (by assumption) (by omega)).symm | exact (R47.text4 (by assumption) (by omega)).symm | exact (R47.rtext4 (by assumption) (by omega)).symm | exact (R47.text5 (by assumption) (by omega)).symm | exact (R47.rtext5 (by assumption) (by omega)).symm | exact (R47.text6 (by assumption) (by omega)).symm | exact (R47.rtext6 (by assumption) (by omega)).symm | exact (R47.text7 (by assumption) (by omega)).symm | exact (R47.rtext7 (by assumption) (by omega)).symm
                    exact congrArg (fun (x0 : Bytes) => vS x0) e_x0
                  · rfl

end Go.Proofs.YtknibpmmjhmjeaaDoor
