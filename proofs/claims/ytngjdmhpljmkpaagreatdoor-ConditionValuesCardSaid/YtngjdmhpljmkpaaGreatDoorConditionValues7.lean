/- Ad40, Tc40, Eq40, Pn40, Pl40, Pl40b, Pl40c, Pl40d, Pl40e in one text. -/
import Derived.Test.YtngjdmhpljmkpaaGreatDoorConditionValues4
import Derived.Test.YtngjdmhpljmkpaaGreatDoorConditionValues3
import Derived.Test.YtngjdmhpljmkpaaGreatDoorConditionValues6
import Derived.Lib.AppendIntMem
import Derived.Lib.SmallJoins
import Derived.Test.YtngjdmhpljmkpaaGreatDoorRows
import Derived.ProofKit
import Derived.LaidMore
import Derived.Stop.Joined
import Derived.Lib.LaidTab
import Derived.Shelf.Vars
import Derived.Handed
import Derived.Lay
import Derived.Test.YtngjdmhpljmkpaaGreatDoorConditionValues5
set_option linter.unusedVariables false
set_option linter.unusedSimpArgs false
namespace Go.Proofs.YtngjdmhpljmkpaaGreatDoor
open Go.GV Go.RowKit Go.Op
def TabP (S : List Nat) (w : World) : Prop := 1 ∉ S ∧ 1 < w.heap.size ∧ ∃ t f, w.heap[1]? = some (.cells (Lib.pow10Tab.map fun z => Value.int .u64 z).toArray t f)
theorem TabP.on {S Sc : List Nat} {w0 w : World} {Lc Lr : List Ent} (h : TabP S w0) (hS : St S w0 w (Lc ++ Lr)) (hSc : ∀ b ∈ Sc, ∃ e ∈ Lc, e.own = some b) : TabP Sc w := by
  obtain ⟨h1, h2, t, f, h3⟩ := h
  refine ⟨fun hc => ?_, Nat.lt_of_lt_of_le h2 hS.fr.size, t, f, (hS.fr.block _ h2 h1).trans h3⟩
  obtain ⟨e, he, ho⟩ := hSc _ hc
  rcases hS.own e (List.mem_append_left _ he) _ ho with h4 | h4
  · exact h1 h4
  · omega
def IsIfc (v : Value) : Prop := v = .nilIface ∨ ∃ te pe, v = .iface te pe
structure Tab (S : List Nat) (w : World) : Prop where
  pow : TabP S w
  mx : ∃ m, RO S w (some ⟨0, 0, none⟩) [vI m]
  es : ∃ v, IsIfc v ∧ RO S w (some ⟨2, 0, none⟩) [v]
  er : ∃ v, IsIfc v ∧ RO S w (some ⟨3, 0, none⟩) [v]
theorem Tab.on {S Sc : List Nat} {w0 w : World} {Lc Lr : List Ent} (h : Tab S w0) (hS : St S w0 w (Lc ++ Lr)) (hSc : ∀ b ∈ Sc, ∃ e ∈ Lc, e.own = some b) : Tab Sc w :=
  ⟨h.pow.on hS hSc, h.mx.imp fun _ k => k.on hS hSc, h.es.imp fun _ k => ⟨k.1, k.2.on hS hSc⟩, h.er.imp fun _ k => ⟨k.1, k.2.on hS hSc⟩⟩
theorem Tab.again {S : List Nat} {w0 w : World} {L : List Ent} (h : Tab S w0) (hS : St S w0 w L) : Tab (Lown L) w :=
  h.on (Lc := L) (Lr := []) (by rw [List.append_nil]; exact hS) lown_mem
theorem cell_of {S : List Nat} {w : World} {b : Nat} {v : Value} (h : RO S w (some ⟨b, 0, none⟩) [v]) : w.cell? ⟨b, 0, none⟩ = some v := h.cell (Fr.refl S w) (j := 0) rfl
section
variable {P : Program} {E : Env} {w : World} {x y : Operand} {dst : Option Nat} {t t' ty : TypeId} {pos : String} {af : Array Edge} {g : Option (Nat × Bool)}
def errV (ok : Bool) (N : Nat) : Value := match ok with
  | true => .nilIface
  | false => .iface 152 (.pointer (some ⟨N, 0, none⟩))
theorem run_eq_nn {m : Array (String × TypeId)} (ht : P.underlying t = some (.interface m)) : (Op.equal t .nilIface .nilIface).run P w = .ok true w := by
  show Sem.run P (Op.equalIn Op.maxDepth t .nilIface .nilIface) w = _
  have hd : Op.maxDepth = (Op.maxDepth - 1) + 1 := by decide
  rw [hd]
  unfold Op.equalIn
  rw [Sem.run_bind, run_underlying ht]; rfl
theorem run_eq_in {m : Array (String × TypeId)} {a : TypeId} {v : Value} (ht : P.underlying t = some (.interface m)) : (Op.equal t (.iface a v) .nilIface).run P w = .ok false w := by
  show Sem.run P (Op.equalIn Op.maxDepth t (.iface a v) .nilIface) w = _
  have hd : Op.maxDepth = (Op.maxDepth - 1) + 1 := by decide
  rw [hd]
  unfold Op.equalIn
  rw [Sem.run_bind, run_underlying ht]; rfl
theorem x_neq_err {m : Array (String × TypeId)} {b : Bool} {N : Nat} (hx : ev E x = errV b N) (ht : P.underlying t = some (.interface m)) : (execOp (ev E) ⟨dst, .binOp .neq t x (.const .nilIface) t', ty, pos, af, g⟩).run P w = .ok (.value (vB (!b))) w := by
  have hb : (binOp .neq t (errV b N) .nilIface).run P w = .ok (vB (!b)) w := by
    cases b with
    | true =>
      show Sem.run P (do pure (Value.bool (!(← Op.equal t .nilIface .nilIface)))) w = _
      rw [Sem.run_bind, run_eq_nn ht]; rfl
    | false =>
      show Sem.run P (do pure (Value.bool (!(← Op.equal t (.iface 152 (.pointer (some ⟨N, 0, none⟩))) .nilIface)))) w = _
      rw [Sem.run_bind, run_eq_in ht]; rfl
  have hg : eqGuard .neq t x (.const .nilIface) (errV b N) .nilIface = pure () := by cases b <;> cases x <;> rfl
  simp only [execOp, hx]
  show Sem.run P (do let v ← (do eqGuard .neq t x (.const .nilIface) (errV b N) .nilIface; binOp .neq t (errV b N) .nilIface); pure (Next.value v)) w = _
  rw [hg]
  show Sem.run P (do let v ← binOp .neq t (errV b N) .nilIface; pure (Next.value v)) w = _
  rw [Sem.run_bind, hb]; rfl
end
theorem itoa_ok (n : Int) (w : World) (hT : Tab [] w) (q0 : 0 ≤ n) (q1 : n ≤ 9223372036854775807) : Calls Tryz.prog 54 #[vI n] w (Gives [] w fun v L => v = vS (Lib.decDigits n.toNat) ∧ L = []) := by
  obtain ⟨h1, h2, t, f, h3⟩ := hT.pow
  have htab : Lib.TabIs Tryz.prog w "internal/strconv.uint64pow10" .u64 Lib.pow10Tab := by
    have hg : Tryz.prog.globalNamed "internal/strconv.uint64pow10" = some 1 := by kernel_rfl
    unfold Lib.TabIs World.var?
    rw [hg]
    simp only [Option.bind_some, h3]
  refine (Tryz.strconv_Itoa n (by omega) q1 w htab).mono ?_
  rintro e w' ⟨rfl, k, os, rfl⟩
  refine ⟨_, _, rfl, ⟨?_, rfl⟩, St.nil ?_⟩
  · rw [Lib.itoa, if_neg (by omega)]
  · exact Fr.of_below (Lib.below_grow _ _ (Nat.le_refl _) k os)
theorem split_ok (s : Bytes) (w : World) (hT : Tab [] w) (q0 : s.length ≤ 1000000) : Calls Tryz.prog 91 #[vS s, vS [46]] w (Gives [] w fun v L => ∃ (A2 : Option Addr) (c2 : Nat), v = vL A2 (R44.splitC 46 s).length c2 ∧ L = [Ent.row (.slice A2 (R44.splitC 46 s).length c2) 9 1 (R44.splitC 46 s).length ((R44.splitC 46 s).map vS)]) := by
  obtain ⟨m, hm⟩ := hT.mx
  refine (Tryz.strings_Split ⟨s.toArray⟩ ⟨#[46]⟩ m w (by show s.toArray.size < _; simp; omega) (cell_of hm) (by decide)).mono ?_
  rintro e w' ⟨rfl, rfl⟩
  have hl := R44.split_lib ⟨s.toArray⟩ 46
  have hlen := congrArg List.length hl
  rw [List.length_map, Lib.splitB_all _ (by decide) 0 _ _ rfl] at hlen
  have hsz : s.length = (⟨s.toArray⟩ : ByteArray).size := by show _ = s.toArray.size; simp
  have hc := Lib.countB_le ⟨#[46]⟩ (by decide) _ ⟨s.toArray⟩ (Nat.le_refl _)
  have hcells : (Lib.splitB ⟨#[46]⟩ 0 (Lib.countB ⟨s.toArray⟩ ⟨#[46]⟩) ⟨s.toArray⟩).map Value.string = (R44.splitC 46 s).map vS := by
    rw [show R44.splitC 46 s = R44.splitC 46 (⟨s.toArray⟩ : ByteArray).data.toList from rfl, ← hl, List.map_map]
    exact List.map_congr_left fun x _ => rfl
  refine ⟨_, _, rfl, ⟨some ⟨w.heap.size, 0, none⟩, (R44.splitC 46 s).length, ?_, rfl⟩, ?_⟩
  · rw [hlen]
  · refine (St.nil (Fr.refl [] w)).alloc _ _ rfl ⟨by simp, .inr ⟨w.heap.size, (R44.splitC 46 s).length, ((R44.splitC 46 s).map vS).toArray, rfl, ?_, Nat.le_refl _, ?_, by simp, ?_⟩⟩
    · rw [hcells]
    · rw [← hlen]; simp only [maxLen]; omega
    · exact List.take_of_length_le (by simp)
theorem count_ok (s : Bytes) (w : World) : Calls Tryz.prog 52 #[vS s, vS [46]] w (Gives [] w fun v L => v = vI ((s.count 46 : Nat) : Int) ∧ L = []) := by
  refine (Tryz.strings_Count_one ⟨s.toArray⟩ 46 w).mono ?_
  rintro e w' ⟨rfl, rfl⟩
  exact ⟨_, _, rfl, ⟨rfl, rfl⟩, St.nil (Fr.refl _ _)⟩
theorem atoi_ok (s : Bytes) (w : World) (hT : Tab [] w) (q0 : s.length ≤ 1000000) : Calls Tryz.prog 101 #[vS s] w (Gives [] w fun v L => ∃ (n : Int) (er : Bool) (N : Nat), v = Value.tuple #[vI n, errV er N] ∧ L = [] ∧ R44.AtoiJ s n er) := by
  obtain ⟨v2, hv2, hr2⟩ := hT.es
  obtain ⟨v3, hv3, hr3⟩ := hT.er
  have hsz : (⟨s.toArray⟩ : ByteArray).size = s.length := by show s.toArray.size = _; simp
  cases ha : Lib.atoiAll s with
  | ok n =>
    refine (Tryz.strconv_Atoi_ok ⟨s.toArray⟩ (by rw [hsz]; omega) n ha w).mono ?_
    rintro e w' ⟨rfl, hw⟩
    refine ⟨_, _, rfl, ⟨n, true, 0, rfl, rfl, fun _ => ha, fun h => (by cases h), ?_⟩, St.nil ?_⟩
    · have := Lib.atoiAll_bounds ha; omega
    · rcases hw with rfl | ⟨t, rfl⟩
      · exact Fr.refl _ _
      · exact Fr.of_below (Joins.below_bytesWorld _ _ _ _ (Nat.le_refl _))
  | range =>
    refine (Tryz.strconv_Atoi_range ⟨s.toArray⟩ (by rw [hsz]; omega) ha v3 w (cell_of hr3) hv3).mono ?_
    rintro e w' ⟨N, rfl, _, _, hb⟩
    have := Lib.atoiSat_bounds s
    exact ⟨_, _, rfl, ⟨Lib.atoiSat s, false, N, rfl, rfl, fun h => (by cases h), fun _ v => (by rw [ha]; exact fun h => (by cases h)), by omega, by omega⟩, St.nil (Fr.of_below hb)⟩
  | _ =>
    refine (Tryz.strconv_Atoi_syntax ⟨s.toArray⟩ (by rw [hsz]; omega) (show (∀ v, Lib.atoiAll s ≠ .ok v) ∧ Lib.atoiAll s ≠ .range from by rw [ha]; exact ⟨fun v h => (by cases h), fun h => (by cases h)⟩) v2 w (cell_of hr2) hv2).mono ?_
    rintro e w' ⟨N, rfl, _, _, hb⟩
    exact ⟨_, _, rfl, ⟨0, false, N, rfl, rfl, fun h => (by cases h), fun _ v => (by rw [ha]; exact fun h => (by cases h)), by omega, by omega⟩, St.nil (Fr.of_below hb)⟩
end Go.Proofs.YtngjdmhpljmkpaaGreatDoor

namespace Go.GV
open Go.RowKit
theorem iface_of {H : Type} {enc : TypeId × Value → H} {P : Program} {w : World} {base : Nat} {sp : Nat → Bool} {held : Bool} {fuel : Nat} {t : TypeId} {m : Array (String × TypeId)} {cs : List Value} {nm : String} {d : DataW H} {p : List MemPlace}
    (ht : P.underlying t = some (.interface m)) (h : DataW.trod enc P w base sp held fuel t cs = some (.iface nm d, p)) : ∃ te pe, cs = [.iface te pe] := by
  cases fuel with
  | zero => cases h
  | succ fuel =>
    unfold DataW.trod at h
    rw [ht] at h
    match cs, h with
    | [.iface te pe], _ => exact ⟨te, pe, rfl⟩
    | [.nilIface], h => cases h
section
variable {P : Program} {t : TypeId}
theorem open_cap {e : TypeId} (ht : P.underlying t = some (.slice e)) : OpenAt P t fun _ cs => ∃ (A : Option Addr) (l c : Nat), cs = [.slice A l c] ∧ l ≤ c := by
  intro H enc w fuel cs x hx
  rcases Deep.open_slice ht hx with ⟨rfl, _⟩ | ⟨a, len, cap, m, n, D, Pl, rfl, _, hlc, _⟩
  · exact ⟨none, 0, 0, rfl, Nat.le_refl _⟩
  · exact ⟨some a, len, cap, rfl, hlc⟩
theorem open_slW2 {α : Type} [Inhabited α] {e : TypeId} {N : Nat} {f : α → List Value} {B : World → α → Prop} (ht : P.underlying t = some (.slice e)) (hc : P.cellsOf e = N) (hN : ∀ a, (f a).length = N) (he : OpenAt P e fun w cs => ∃ a, cs = f a ∧ B w a) :
    OpenAt P t fun w cs => ∃ (A : Option Addr) (c : Nat) (xs : List α), cs = [.slice A xs.length c] ∧ RO [] w A (xs.flatMap f) ∧ (xs.length ≤ c ∧ xs.length ≤ 9223372036854775807) ∧ ∀ a ∈ xs, B w a := by
  intro H enc w fuel cs x hx
  obtain ⟨A, c, xs, rfl, hR, hl, hB⟩ := open_slW ht hc hN he H enc w fuel cs x hx
  obtain ⟨A2, l2, c2, e2, hle⟩ := open_cap ht H enc w fuel _ x hx
  cases e2
  exact ⟨A, c, xs, rfl, hR, ⟨hle, hl⟩, hB⟩
theorem open_sl2 {α : Type} [Inhabited α] {e : TypeId} {N : Nat} {f : α → List Value} {B : α → Prop} (ht : P.underlying t = some (.slice e)) (hc : P.cellsOf e = N) (hN : ∀ a, (f a).length = N) (he : OpenAt P e fun _ cs => ∃ a, cs = f a ∧ B a) :
    OpenAt P t fun w cs => ∃ (A : Option Addr) (c : Nat) (xs : List α), cs = [.slice A xs.length c] ∧ RO [] w A (xs.flatMap f) ∧ (xs.length ≤ c ∧ xs.length ≤ 9223372036854775807) ∧ ∀ a ∈ xs, B a :=
  open_slW2 (B := fun _ => B) ht hc hN he
end
theorem ro_one {w : World} {b : Nat} {v : Value} (h : w.cell? ⟨b, 0, none⟩ = some v) (hb : b < w.heap.size) : RO [] w (some ⟨b, 0, none⟩) [v] := fun j u hj => by
  cases j with
  | zero => cases hj; exact ⟨_, rfl, hb, List.not_mem_nil, h⟩
  | succ j => cases hj
end Go.GV
namespace Go
theorem returnsInHanded_of_change_and_shaped {H : Type} {enc : TypeId × Value → H} {a : Assume} {C : Checked} {os : Os} {f : FuncId} {fn : Func} {s : ChangeSpec} {conds : List PathCond} {apart fresh handsOn again : Bool} {X : World → Array Value → Prop}
    (hX : ∀ (w w' : World) (args : Array Value), w.heap = w'.heap → X w args → X w' args)
    (own : ownKnob C.prog.godebug = none) (started : os.Started) (noInit : C.prog.inits.idxOf? f = none) (hfn : C.prog.funcs[f]? = some fn)
    (witness : ∃ (w : World) (tape : Tape) (i : Input), w.os = os ∧ (w.forCall tape i).Shaped C.prog ∧ i.vars = [] ∧ Input.okWide C.prog (w.forCall tape i) .any w.heap.size f i ∧
      ((s.pre enc C.prog fn conds apart (w.forCall tape i).memory i.args ∧ X (w.forCall tape i).memory i.args) ∧ sizedMet enc C.prog fn (OpenSpec.ofChange s) apart (w.forCall tape i).memory i.args) ∧ a.holds C.prog (lone (Frame.enter C.prog f i.args .normal) [] (w.forCall tape i)))
    (contract : ∀ (W : World) (base : Nat) (args : Array Value) (ds gs : List (DataW H)) (before : List MemPlace),
      (∀ (j : Nat) t v, fn.params[j]? = some t → args[j]? = some v → Value.okWide C.prog W .any base t v) →
      DataW.Whole enc C.prog fn.params.toList s.vars apart W args.toList ds gs before →
      X W args → W.ShapedOpen C.prog →
      Calls C.prog f args W fun e W' => ∃ v, e = .returned v ∧ s.post enc C.prog fn apart fresh handsOn again W args v W') :
    ReturnsInHanded a C os f .any (fun w args => (s.pre enc C.prog fn conds apart w args ∧ X w args) ∧ sizedMet enc C.prog fn (OpenSpec.ofChange s) apart w args) (s.post enc C.prog fn apart fresh handsOn again) := by
  refine returnsInHanded_of_calls own started noInit witness ?_
  intro w tape i _ hsh _ hok hpre _
  obtain ⟨_, _, _, fn', hfn', _, _, _, _, hval⟩ := hok
  obtain rfl : fn' = fn := Option.some.inj (hfn'.symm.trans hfn)
  obtain ⟨⟨⟨ds, gs, before, hw, _⟩, hx⟩, _⟩ := hpre
  refine (contract (w.forCall tape i) w.heap.size i.args ds gs before hval (DataW.Whole.of_heap (w' := w.forCall tape i) (by rfl) hw) (hX _ _ _ (by rfl) hx) hsh).mono fun e W' ⟨v, he, hp⟩ => ?_
  subst he
  exact ChangeSpec.post_blind hp
end Go
namespace Go.Proofs.YtngjdmhpljmkpaaGreatDoor
open Go.GV Go.RowKit
theorem own : ownKnob Tryz.prog.godebug = none := by kernel_rfl
theorem gN1 : Tryz.prog.globalNamed Rows.conditionReturnsRow.laid[2].1 = some 1 := by kernel_rfl
theorem gN2 : Tryz.prog.globalNamed Rows.conditionReturnsRow.laid[5].1 = some 2 := by kernel_rfl
theorem gN3 : Tryz.prog.globalNamed Rows.conditionReturnsRow.laid[4].1 = some 3 := by kernel_rfl
theorem gT1 : (Tryz.prog.globals[1]?).map (·.type) = some 146 := by kernel_rfl
theorem gT2 : (Tryz.prog.globals[2]?).map (·.type) = some 129 := by kernel_rfl
theorem gT3 : (Tryz.prog.globals[3]?).map (·.type) = some 129 := by kernel_rfl
theorem gMax {w : World} (h : w.ShapedOpen Tryz.prog) : ∃ m, w.cell? ⟨0, 0, none⟩ = some (.int .i64 m) :=
  Go.Proofs.cell_of_shapedOpen_int (zero := #[.int .i64 0]) (t := 3) h (of_decide_eq_true (by kernel_rfl)) (by kernel_rfl) rfl (by kernel_rfl) (by kernel_rfl) Tryz.underlying3
theorem dTab : (Rows.laid_internal_strconv_uint64pow10 : DataW Unit) = Lib.tabData .u64 Lib.pow10Tab := by kernel_rfl
theorem var_cells {W : World} {g : Nat} {cs : Array Value} {l : List Value} {nm : String} (hg : Tryz.prog.globalNamed nm = some g) (hv : W.var? Tryz.prog nm = some cs) (hc : cs.toList = l) : g < W.heap.size ∧ ∃ t f, W.heap[g]? = some (.cells l.toArray t f) := by
  unfold World.var? at hv
  rw [hg] at hv
  simp only [Option.bind_some] at hv
  cases ho : W.heap[g]? with
  | none => rw [ho] at hv; cases hv
  | some o =>
    rw [ho] at hv
    cases o with
    | cells c t f =>
      have hv : some c = some cs := hv
      obtain rfl := Option.some.inj hv
      exact ⟨(Array.getElem?_eq_some_iff.1 ho).1, t, f, by rw [← hc]⟩
    | _ => cases hv
theorem cell_at {W : World} {g : Nat} {v : Value} {t : TypeId} {f : Nat × Nat} (h : W.heap[g]? = some (.cells [v].toArray t f)) : W.cell? ⟨g, 0, none⟩ = some v := by
  simp [World.cell?, h]
noncomputable abbrev start (os : Os) : World := World.laidAll Tryz.prog os Rows.conditionReturnsRow.laid
theorem door_met (os : Os) (args : Array Value) : laidMetH Tryz.prog Rows.conditionReturnsRow.laid ((start os).forCall (fun _ _ => 0) ⟨#[], args, []⟩).memory := by
  rw [MakeChecks.laidMetH_plain _ _ _ (by kernel_rfl)]
  exact laidMet_laidAll args (by kernel_rfl) (by kernel_rfl)
theorem start_os (os : Os) : (start os).os = os := World.laidAll_os _ _ _
theorem tab_of {W : World} (hs : W.ShapedOpen Tryz.prog) (h : laidMetH Tryz.prog Rows.conditionReturnsRow.laid W) : Tab [] W := by
  rw [MakeChecks.laidMetH_plain _ _ _ (by kernel_rfl)] at h
  obtain ⟨ps, ⟨g0, t0, cs0, f0, p0, q0, hg0, ht0, hv0, hd0, ⟨g1, t1, cs1, f1, p1, q1, hg1, ht1, hv1, hd1, ⟨g2, t2, cs2, f2, p2, q2, hg2, ht2, hv2, hd2, ⟨g3, t3, cs3, f3, p3, q3, hg3, ht3, hv3, hd3, ⟨g4, t4, cs4, f4, p4, q4, hg4, ht4, hv4, hd4, ⟨g5, t5, cs5, f5, p5, q5, hg5, ht5, hv5, hd5, ⟨g6, t6, cs6, f6, p6, q6, hg6, ht6, hv6, hd6, _, _⟩, _⟩, _⟩, _⟩, _⟩, _⟩, _⟩, _, _⟩ := h
  obtain rfl := Option.some.inj (gN1.symm.trans hg2)
  obtain rfl := Option.some.inj (gN2.symm.trans hg5)
  obtain rfl := Option.some.inj (gN3.symm.trans hg4)
  obtain rfl := Option.some.inj (gT1.symm.trans ht2)
  obtain rfl := Option.some.inj (gT2.symm.trans ht5)
  obtain rfl := Option.some.inj (gT3.symm.trans ht4)
  rw [dTab] at hd2
  have hc := Lib.cells_of_tab Tryz.underlying146 Tryz.underlying119 (by kernel_rfl) (by kernel_rfl) hd2
  obtain ⟨h1, k1, k2, k3⟩ := var_cells hg2 hv2 hc
  obtain ⟨e5, f5', hc5⟩ := iface_of Tryz.underlying129 hd5
  obtain ⟨e4, f4', hc4⟩ := iface_of Tryz.underlying129 hd4
  obtain ⟨h5, _, _, y5⟩ := var_cells hg5 hv5 hc5
  obtain ⟨h4, _, _, y4⟩ := var_cells hg4 hv4 hc4
  obtain ⟨m, hm⟩ := gMax hs
  exact ⟨⟨List.not_mem_nil, h1, k1, k2, k3⟩, ⟨m, ro_one hm (by omega)⟩, ⟨_, .inr ⟨e5, f5', rfl⟩, ro_one (cell_at y5) h5⟩, ⟨_, .inr ⟨e4, f4', rfl⟩, ro_one (cell_at y4) h4⟩⟩
end Go.Proofs.YtngjdmhpljmkpaaGreatDoor

namespace Go.Proofs.YtngjdmhpljmkpaaGreatDoor
open Go.GV
namespace Ty
theorem eg40 : Tryz.prog.eqGuardType Tryz.prog.depth 40 = false := by kernel_rfl
theorem sh40 : Tryz.prog.stoodInHeld 40 = false := by kernel_rfl
set_option maxRecDepth 20000 in
theorem eq40 (d : Nat) (a b : Test) (w : World) : (Op.equalIn (d + 2) 40 (.agg (Test.enc a).toArray) (.agg (Test.enc b).toArray)).run Tryz.prog w = .ok (decide (a = b)) w := by
  have h := eq_struct (P := Tryz.prog) (d := d + 1) (t := 40) (xs := (Test.enc a).toArray) (ys := (Test.enc b).toArray) (bs := [decide (a.Kind = b.Kind), decide (a.Step = b.Step), decide (a.Op = b.Op), decide (a.N = b.N)]) Tryz.underlying40 sh40
    ⟨by decide, .i (d := d + 0) (a := a.Kind) (b := b.Kind) Ty.sc3 Tryz.underlying3 rfl rfl, by decide, .s (d := d + 0) (a := a.Step) (b := b.Step) Ty.sc9 Tryz.underlying9 rfl rfl, by decide, .i (d := d + 0) (a := a.Op) (b := b.Op) Ty.sc3 Tryz.underlying3 rfl rfl, by decide, .i (d := d + 0) (a := a.N) (b := b.N) Ty.sc3 Tryz.underlying3 rfl rfl, trivial⟩ w
  refine h.trans (congrArg (fun r => Result.ok r w) ?_)
  cases a; cases b
  rw [Bool.eq_iff_iff]
  simp only [List.all_cons, List.all_nil, id, Bool.and_eq_true, decide_eq_true_eq, Test.mk.injEq, and_true]
end Ty
end Go.Proofs.YtngjdmhpljmkpaaGreatDoor

namespace Go.Proofs.YtngjdmhpljmkpaaGreatDoor
open Go.GV
namespace R44
theorem dec_lenI (n : Int) (h : n ≤ 9223372036854775807) : (Lib.decDigits n.toNat).length ≤ 19 := dec_len19 (by omega)
theorem splitGo_len (b : UInt8) : ∀ (l cur : Bytes), ∀ x ∈ splitGo b cur l, x.length ≤ cur.length + l.length
  | [], cur, x, hx => by rw [splitGo] at hx; rw [List.mem_singleton.1 hx]; simp
  | c :: r, cur, x, hx => by
    rw [splitGo] at hx; rw [List.length_cons]
    split at hx
    · rcases List.mem_cons.1 hx with rfl | hx
      · omega
      · have := splitGo_len b r [] x hx; simp at this; omega
    · have := splitGo_len b r _ x hx; simp at this; omega
theorem splitC_len (b : UInt8) (s : Bytes) (i : Nat) : ((splitC b s).getD i []).length ≤ s.length := by
  by_cases h : i < (splitC b s).length
  · have := splitGo_len b s [] _ (getD_mem (d := []) h); rw [List.length_nil, Nat.zero_add] at this; exact this
  · rw [List.getD_eq_getElem?_getD, List.getElem?_eq_none (by omega)]; exact Nat.zero_le _
theorem splitGo_count (b : UInt8) : ∀ (l cur : Bytes), (splitGo b cur l).length ≤ l.length + 1
  | [], cur => by rw [splitGo]; simp
  | c :: r, cur => by
    rw [splitGo, List.length_cons]
    split
    · rw [List.length_cons]; have := splitGo_count b r []; omega
    · have := splitGo_count b r (cur ++ [c]); omega
theorem splitC_count (b : UInt8) (s : Bytes) : (splitC b s).length ≤ s.length + 1 := splitGo_count b s []
end R44
end Go.Proofs.YtngjdmhpljmkpaaGreatDoor

namespace Go.Proofs.YtngjdmhpljmkpaaGreatDoor
open Go.GV
namespace R40
def bare (k : Int) : Test := ⟨k, [], 0, 0⟩
def leafOk (P : Bytes → Bool) (t : Test) : Bool :=
  decide (t = bare 3) || ((decide (t.Kind = 1) || decide (t.Kind = 2)) && decide (t.Op = 0) && decide (t.N = 0) && P t.Step) || (decide (t.Kind = 0) && decide (0 ≤ t.Op) && decide (t.Op ≤ 5) && decide (0 ≤ t.N) && decide (t.N ≤ 4095) && P t.Step)
def stepT (P : Bytes → Bool) (l : List Node) (i : Nat) (t : Test) : Option (List Node) :=
  if t = bare 4 ∧ 1 ≤ l.length then some (l.set (l.length - 1) (.neg (l.getD (l.length - 1) default)))
  else if (t = bare 5 ∨ t = bare 6) ∧ 2 ≤ l.length then some (l.take (l.length - 2) ++ [.pair (decide (t.Kind = 5)) (l.getD (l.length - 2) default) (l.getD (l.length - 1) default)])
  else if leafOk P t = true then some (l ++ [.leaf t i]) else none
def treeG (P : Bytes → Bool) : Nat → List Node → List Test → Option (List Node)
  | _, l, [] => some l
  | i, l, t :: r => match stepT P l i t with
    | none => none
    | some l' => treeG P (i + 1) l' r
def one : Option (List Node) → Option Node
  | some [x] => some x
  | _ => none
def treeV (P : Bytes → Bool) (ts : List Test) : Option Node := if 32 < ts.length then none else one (treeG P 0 [] ts)
def onP (steps : List Bytes) (s : Bytes) : Bool := decide (s ∈ steps)
def onV (ts : List Test) (steps : List Bytes) : Option Node := if ts = [] then some (.neg (.leaf (bare 3) 0)) else treeV (onP steps) ts
def eval (v : Test → Int → Bool) : Node → Bool
  | .leaf t i => v t i
  | .neg x => !eval v x
  | .pair b x y => if b = true then eval v x && eval v y else eval v x || eval v y
def size : Node → Nat
  | .leaf _ _ => 0
  | .neg x => size x + 1
  | .pair _ x y => size x + size y + 1
def related (c op n : Int) : Bool := if op = 0 then decide (c < n) else if op = 1 then decide (c ≤ n) else if op = 2 then decide (c = n) else if op = 3 then decide (c ≠ n) else if op = 4 then decide (n ≤ c) else decide (n < c)
def holds (t : Test) (e : StepEnd) : Bool := if t.Kind = 0 then (e.Ran && !e.Failed) && related e.Code t.Op t.N else if t.Kind = 1 then e.Ran && e.Failed else e.Ran
def failed (e : StepEnd) : Bool := e.Ran && e.Failed
def idx : List Bytes → Bytes → Int
  | [], _ => -1
  | x :: r, s => if x = s then 0 else if idx r s < 0 then -1 else idx r s + 1
def cutE (steps : List Bytes) (ends : List StepEnd) : List StepEnd := ends.take (min ends.length steps.length)
def leafV (steps : List Bytes) (E : List StepEnd) (t : Test) (_i : Int) : Bool := if t.Kind = 3 then E.any failed else decide (idx steps t.Step < E.length) && holds t (E.getD (idx steps t.Step).toNat default)
def evalV (ts : List Test) (steps : List Bytes) (ends : List StepEnd) : Bool := match onV ts steps with
  | none => false
  | some x => eval (leafV steps (cutE steps ends)) x
theorem leaf_any {P : Bytes → Bool} {t : Test} (h : leafOk P t = true) : t = bare 3 ∨ ((t.Kind = 1 ∨ t.Kind = 2) ∧ t.Op = 0 ∧ t.N = 0 ∧ P t.Step = true) ∨ (t.Kind = 0 ∧ 0 ≤ t.Op ∧ t.Op ≤ 5 ∧ 0 ≤ t.N ∧ t.N ≤ 4095 ∧ P t.Step = true) := by
  unfold leafOk at h
  simp only [Bool.or_eq_true, Bool.and_eq_true, decide_eq_true_eq] at h
  rcases h with (h | h) | h
  · exact .inl h
  · exact .inr (.inl ⟨h.1.1.1, h.1.1.2, h.1.2, h.2⟩)
  · exact .inr (.inr ⟨h.1.1.1.1.1, h.1.1.1.1.2, h.1.1.1.2, h.1.1.2, h.1.2, h.2⟩)
def good (P : Bytes → Bool) : Node → Prop
  | .leaf t _ => leafOk P t = true
  | .neg x => good P x
  | .pair _ x y => good P x ∧ good P y
theorem idx_lt (l : List Bytes) (s : Bytes) : -1 ≤ idx l s ∧ idx l s < l.length := by
  induction l with
  | nil => simp [idx]
  | cons x r ih =>
    rw [idx]; split
    · simp only [List.length_cons]; omega
    · split <;> simp only [List.length_cons] <;> omega
theorem idx_mem {l : List Bytes} {s : Bytes} : 0 ≤ idx l s ↔ s ∈ l := by
  induction l with
  | nil => simp [idx]
  | cons x r ih =>
    rw [idx]; split
    · rename_i h; subst h; simp
    · rename_i h
      have hm : s ∈ x :: r ↔ s ∈ r := by simp [show s ≠ x from fun e => h e.symm]
      rw [hm, ← ih]
      split <;> omega
theorem idx_at {l : List Bytes} {s : Bytes} (h : 0 ≤ idx l s) : l.getD (idx l s).toNat [] = s := by
  induction l with
  | nil => simp [idx] at h
  | cons x r ih =>
    rw [idx] at h ⊢; split
    · rename_i e; subst e; rfl
    · rename_i hne
      rw [if_neg hne] at h
      split
      · rename_i h2; rw [if_pos h2] at h; omega
      · rename_i h2
        rw [show (idx r s + 1).toNat = (idx r s).toNat + 1 by omega]
        exact ih (by omega)
def post : Node → List Test
  | .leaf t _ => [t]
  | .neg x => post x ++ [bare 4]
  | .pair b x y => post x ++ (post y ++ [bare (if b = true then 5 else 6)])
def at_ : Nat → Node → Prop
  | i, .leaf _ j => j = (i : Int)
  | i, .neg x => at_ i x
  | i, .pair _ x y => at_ i x ∧ at_ (i + (post x).length) y
theorem bare_not {P : Bytes → Bool} {k : Int} (h : 4 ≤ k) : leafOk P (bare k) = false := by
  unfold leafOk bare
  have h3 : decide ((⟨k, [], 0, 0⟩ : Test) = ⟨3, [], 0, 0⟩) = false := decide_eq_false fun e => by injection e; omega
  rw [h3, decide_eq_false (show ¬ k = 1 by omega), decide_eq_false (show ¬ k = 2 by omega), decide_eq_false (show ¬ k = 0 by omega)]; simp
theorem leaf_bare {P : Bytes → Bool} {t : Test} {k : Int} (h : leafOk P t = true) (hk : 4 ≤ k) : t ≠ bare k := fun e => by
  rw [e, bare_not hk] at h; cases h
section
variable {P : Bytes → Bool} {l : List Node} {x y : Node} {i : Nat} {t : Test}
theorem step_leaf (h : leafOk P t = true) : stepT P l i t = some (l ++ [.leaf t i]) := by
  unfold stepT
  rw [if_neg (fun e => leaf_bare h (by omega) e.1), if_neg (fun e => e.1.elim (leaf_bare h (by omega)) (leaf_bare h (by omega))), if_pos h]
theorem step_neg : stepT P (l ++ [x]) i (bare 4) = some (l ++ [.neg x]) := by
  unfold stepT
  rw [if_pos ⟨rfl, by simp⟩]
  congr 1
  have h1 : (l ++ [x]).length - 1 = l.length := by simp
  rw [h1, List.getD_eq_getElem?_getD, List.getElem?_append_right (Nat.le_refl _), Nat.sub_self]
  simp
theorem step_pair {b : Bool} : stepT P (l ++ [x, y]) i (bare (if b = true then 5 else 6)) = some (l ++ [.pair b x y]) := by
  unfold stepT
  have h1 : (l ++ [x, y]).length - 1 = l.length + 1 := by simp
  have h2 : (l ++ [x, y]).length - 2 = l.length := by simp
  have hx : (l ++ [x, y]).getD l.length default = x := by rw [List.getD_eq_getElem?_getD, List.getElem?_append_right (Nat.le_refl _), Nat.sub_self]; rfl
  have hy : (l ++ [x, y]).getD (l.length + 1) default = y := by rw [List.getD_eq_getElem?_getD, List.getElem?_append_right (Nat.le_succ _), show l.length + 1 - l.length = 1 by omega]; rfl
  rw [h1, h2, hx, hy, List.take_left']
  · cases b with
    | true => rw [if_neg (fun e => absurd e.1 (by decide)), if_pos ⟨.inl rfl, by simp⟩]; rfl
    | false => rw [if_neg (fun e => absurd e.1 (by decide)), if_pos ⟨.inr rfl, by simp⟩]; rfl
  · rfl
end
def rei : Nat → Node → Node
  | i, .leaf t _ => .leaf t i
  | i, .neg x => .neg (rei i x)
  | i, .pair b x y => .pair b (rei i x) (rei (i + (post x).length) y)
theorem rei_at {x : Node} : ∀ {i : Nat}, at_ i x → rei i x = x := by
  induction x with
  | leaf t j => intro i h; rw [rei, ← show j = (i : Int) from h]
  | neg x ih => intro i h; rw [rei, ih h]
  | pair b x y ih1 ih2 => intro i h; rw [rei, ih1 h.1, ih2 h.2]
section
variable {P : Bytes → Bool}
theorem tree_post {x : Node} : ∀ {i : Nat} {l : List Node} {r : List Test}, good P x → treeG P i l (post x ++ r) = treeG P (i + (post x).length) (l ++ [rei i x]) r := by
  induction x with
  | leaf t j =>
    intro i l r h
    show treeG P i l (t :: r) = _
    rw [treeG, step_leaf h]; rfl
  | neg x ih =>
    intro i l r h
    rw [post, List.append_assoc, ih h]
    show treeG P _ _ (bare 4 :: r) = _
    rw [treeG, step_neg, List.length_append]; rfl
  | pair b x y ih1 ih2 =>
    intro i l r h
    rw [post, List.append_assoc, ih1 h.1, List.append_assoc, ih2 h.2]
    show treeG P _ _ (bare (if b = true then 5 else 6) :: r) = _
    rw [treeG, List.append_assoc, show [rei i x] ++ [rei (i + (post x).length) y] = [rei i x, rei (i + (post x).length) y] from rfl, step_pair, List.length_append, List.length_append]
    show treeG P _ _ r = treeG P _ _ r
    rw [show i + (post x).length + (post y).length + 1 = i + ((post x).length + ((post y).length + 1)) by omega]; rfl
def Inv (P : Bytes → Bool) : Nat → List Node → Prop
  | _, [] => True
  | i, x :: l => good P x ∧ at_ i x ∧ Inv P (i + (post x).length) l
def posts (l : List Node) : List Test := l.flatMap post
theorem Inv_app : ∀ {i : Nat} {l m : List Node}, Inv P i (l ++ m) ↔ Inv P i l ∧ Inv P (i + (posts l).length) m
  | i, [], m => by simp [Inv, posts]
  | i, x :: l, m => by
    have ih := Inv_app (i := i + (post x).length) (l := l) (m := m)
    unfold posts at *
    rw [List.flatMap_cons, List.length_append, List.cons_append, Inv, Inv, ih, ← Nat.add_assoc, and_assoc, and_assoc]
theorem posts_app (l m : List Node) : posts (l ++ m) = posts l ++ posts m := List.flatMap_append
theorem list_two {α : Type} {l : List α} {d : α} (h : 2 ≤ l.length) : l = l.take (l.length - 2) ++ [l.getD (l.length - 2) d, l.getD (l.length - 1) d] := by
  have e := R44.take_snoc (l := l) (k := l.length - 2) (d := d) (by omega)
  have e2 := R44.take_snoc (l := l) (k := l.length - 1) (d := d) (by omega)
  rw [show l.length - 2 + 1 = l.length - 1 by omega] at e
  rw [show l.length - 1 + 1 = l.length by omega, List.take_length, e, List.append_assoc] at e2
  exact e2
theorem list_one {α : Type} {l : List α} {d : α} (h : 1 ≤ l.length) : l = l.take (l.length - 1) ++ [l.getD (l.length - 1) d] := by
  have e2 := R44.take_snoc (l := l) (k := l.length - 1) (d := d) (by omega)
  rwa [show l.length - 1 + 1 = l.length by omega, List.take_length] at e2
theorem step_inv {l l' : List Node} {t : Test} (h : stepT P l (posts l).length t = some l') (hI : Inv P 0 l) : Inv P 0 l' ∧ posts l' = posts l ++ [t] := by
  unfold stepT at h
  split at h
  · rename_i h1
    cases h
    have e := list_one (d := default) h1.2
    have e2 : l.set (l.length - 1) (.neg (l.getD (l.length - 1) default)) = l.take (l.length - 1) ++ [.neg (l.getD (l.length - 1) default)] := by
      generalize l.getD (l.length - 1) default = x at *
      rw [e]; simp
    rw [e2]
    rw [e, Inv_app] at hI
    rw [Inv_app, posts_app]
    refine ⟨⟨hI.1, hI.2.1, hI.2.2.1, trivial⟩, ?_⟩
    have e3 : posts l = posts (l.take (l.length - 1)) ++ posts [l.getD (l.length - 1) default] := by rw [← posts_app, ← e]
    rw [e3, List.append_assoc, h1.1]
    simp [posts, post]
  · split at h
    · rename_i h1
      cases h
      have e := list_two (d := default) h1.2
      have e3 : posts l = posts (l.take (l.length - 2)) ++ posts [l.getD (l.length - 2) default, l.getD (l.length - 1) default] := by rw [← posts_app, ← e]
      rw [e, Inv_app] at hI
      rw [Inv_app, posts_app]
      refine ⟨⟨hI.1, ⟨hI.2.1, hI.2.2.2.1⟩, ⟨hI.2.2.1, hI.2.2.2.2.1⟩, trivial⟩, ?_⟩
      rw [e3, List.append_assoc]
      have ht : t = bare (if decide (t.Kind = 5) = true then 5 else 6) := by
        rcases h1.1 with h2 | h2 <;> rw [h2] <;> rfl
      rw [show [t] = [bare (if decide (t.Kind = 5) = true then 5 else 6)] from congrArg (fun x => [x]) ht]
      simp [posts, post]
    · split at h
      · rename_i h1
        cases h
        rw [Inv_app, posts_app]
        refine ⟨⟨hI, h1, ?_, trivial⟩, rfl⟩
        show _ = ((0 + (posts l).length : Nat) : Int)
        rw [Nat.zero_add]
      · cases h
theorem tree_inv : ∀ {r : List Test} {l l' : List Node}, treeG P (posts l).length l r = some l' → Inv P 0 l → Inv P 0 l' ∧ posts l' = posts l ++ r
  | [], l, l', h, hI => by cases h; exact ⟨hI, (List.append_nil _).symm⟩
  | t :: r, l, l', h, hI => by
    rw [treeG] at h
    split at h
    · cases h
    · rename_i m hm
      obtain ⟨h1, h2⟩ := step_inv hm hI
      have hl : (posts m).length = (posts l).length + 1 := by rw [h2, List.length_append]; rfl
      rw [← hl] at h
      have h3 := tree_inv h h1
      rw [h2, List.append_assoc] at h3
      exact h3
theorem tree_iff {ts : List Test} {x : Node} : treeV P ts = some x ↔ ts.length ≤ 32 ∧ good P x ∧ at_ 0 x ∧ post x = ts := by
  unfold treeV
  constructor
  · intro h
    split at h
    · cases h
    · unfold one at h
      split at h
      · rename_i hg
        cases h
        obtain ⟨h1, h2⟩ := tree_inv (l := []) hg trivial
        refine ⟨by omega, h1.1, h1.2.1, ?_⟩
        simpa [posts] using h2
      · cases h
  · rintro ⟨h1, h2, h3, rfl⟩
    rw [if_neg (by omega)]
    have := tree_post (P := P) (i := 0) (l := []) (r := []) h2
    rw [List.append_nil] at this
    rw [this, rei_at h3]; rfl
end
end R40
end Go.Proofs.YtngjdmhpljmkpaaGreatDoor

namespace Go.Proofs.YtngjdmhpljmkpaaGreatDoor
open Go.GV
namespace R40
section
variable {P : Bytes → Bool} {steps : List Bytes} {ends : List StepEnd} {ts a b : List Test}
theorem onV_some {x : Node} (h : ts ≠ []) : onV ts steps = some x ↔ ts.length ≤ 32 ∧ good (onP steps) x ∧ at_ 0 x ∧ post x = ts := by
  unfold onV; rw [if_neg h]; exact tree_iff
def opp (o : Int) : Int := if o = 0 then 4 else if o = 1 then 5 else if o = 2 then 3 else if o = 3 then 2 else if o = 4 then 0 else if o = 5 then 1 else o
def pushT : Node → Bool → List Test
  | .neg x, o => pushT x (!o)
  | .pair b x y, o => pushT x o ++ pushT y o ++ [bare (if (b != o) = true then 5 else 6)]
  | .leaf t _, o => if o = false then [t] else if t.Kind = 0 then [⟨t.Kind, t.Step, opp t.Op, t.N⟩, ⟨1, t.Step, 0, 0⟩, bare 6, ⟨2, t.Step, 0, 0⟩, bare 4, bare 6] else [t, bare 4]
def pushN : Node → Bool → Node
  | .neg x, o => pushN x (!o)
  | .pair b x y, o => .pair (b != o) (pushN x o) (pushN y o)
  | .leaf t i, o => if o = false then .leaf t i else if t.Kind = 0 then .pair false (.pair false (.leaf ⟨t.Kind, t.Step, opp t.Op, t.N⟩ 0) (.leaf ⟨1, t.Step, 0, 0⟩ 0)) (.neg (.leaf ⟨2, t.Step, 0, 0⟩ 0)) else .neg (.leaf t i)
def leaves : Node → Nat
  | .leaf _ _ => 1
  | .neg x => leaves x
  | .pair _ x y => leaves x + leaves y
def NotsOk (l : List Test) : Prop := ∀ i, i < l.length → (l.getD i default).Kind = 4 → 0 < i ∧ ((l.getD (i - 1) default).Kind = 1 ∨ (l.getD (i - 1) default).Kind = 2 ∨ (l.getD (i - 1) default).Kind = 3)
theorem getD_app1 {α : Type} {l m : List α} {i : Nat} {d : α} (h : i < l.length) : (l ++ m).getD i d = l.getD i d := by
  rw [List.getD_eq_getElem?_getD, List.getElem?_append_left h, List.getD_eq_getElem?_getD]
theorem getD_app2 {α : Type} {l m : List α} {i : Nat} {d : α} (h : l.length ≤ i) : (l ++ m).getD i d = m.getD (i - l.length) d := by
  rw [List.getD_eq_getElem?_getD, List.getElem?_append_right h, List.getD_eq_getElem?_getD]
theorem NotsOk.app {l m : List Test} (hl : NotsOk l) (hm : NotsOk m) : NotsOk (l ++ m) := fun i hi hk => by
  rw [List.length_append] at hi
  by_cases h : i < l.length
  · rw [getD_app1 h] at hk
    have h2 := hl i h hk
    rw [getD_app1 (by omega)]; exact h2
  · rw [getD_app2 (by omega)] at hk
    have h2 := hm (i - l.length) (by omega) hk
    rw [getD_app2 (by omega), show i - 1 - l.length = i - l.length - 1 by omega]
    exact ⟨by omega, h2.2⟩
theorem NotsOk.one {t : Test} (h : t.Kind ≠ 4) : NotsOk [t] := fun i hi hk => by
  have : i = 0 := by simp at hi; exact hi
  subst this; exact absurd hk h
theorem NotsOk.two {t : Test} (h : t.Kind = 1 ∨ t.Kind = 2 ∨ t.Kind = 3) : NotsOk [t, bare 4] := fun i hi hk => by
  have : i = 0 ∨ i = 1 := by simp at hi; omega
  rcases this with rfl | rfl
  · have hk : t.Kind = 4 := hk; omega
  · exact ⟨by decide, h⟩
def stepV (s : Bytes) : Bool := R44.nameV (R44.qualV R44.isUp R44.isPl) s && decide ((((s.count 46 : Nat) : Int)) < 2)
def notV (ts : List Test) : List Test := if ts = [] then [bare 3] else match treeV stepV ts with
  | none => []
  | some x => if 32 < (pushT x true).length then [] else pushT x true
end
end R40
end Go.Proofs.YtngjdmhpljmkpaaGreatDoor

namespace Go.Proofs.YtngjdmhpljmkpaaGreatDoor
open Go.GV
namespace R40
abbrev wOR : Bytes := [111, 114]
abbrev wAND : Bytes := [97, 110, 100]
abbrev wNOT : Bytes := [110, 111, 116]
abbrev wLP : Bytes := [40]
abbrev wRP : Bytes := [41]
abbrev wFAILED : Bytes := [102, 97, 105, 108, 101, 100]
abbrev wRAN : Bytes := [114, 97, 110]
abbrev wRC : Bytes := [114, 99]
abbrev rels : List Bytes := [[60], [60, 61], [61], [33, 61], [62, 61], [62]]
def numC (s : Bytes) : Option Int := if R44.vN s ≤ 4095 ∧ Lib.decDigits (R44.vN s) = s then some (R44.vN s) else none
structure PR where
  ok : Bool
  pos : Nat
  out : List Test
def isA (ws : List Bytes) (i : Nat) (w : Bytes) : Bool := decide (i < ws.length) && decide (ws.getD i [] = w)
section
variable (ws : List Bytes)
def basicK (i : Nat) : Option (Test × Nat) ⊕ Nat :=
  if isA ws (i + 1) wFAILED = true then .inl (some (⟨1, ws.getD i [], 0, 0⟩, 2))
  else if isA ws (i + 1) wRAN = true then .inl (some (⟨2, ws.getD i [], 0, 0⟩, 2))
  else if isA ws (i + 1) wRC = true then
    (if i + 2 < ws.length ∧ 0 ≤ idx rels (ws.getD (i + 2) []) then
      (if i + 3 < ws.length then (match numC (ws.getD (i + 3) []) with
        | some n => .inl (some (⟨0, ws.getD i [], idx rels (ws.getD (i + 2) []), n⟩, 4))
        | none => .inr 3) else .inr 3)
    else .inr 2)
  else .inr 1
def basicV (i : Nat) : PR :=
  if i < ws.length ∧ stepV (ws.getD i []) = true then (match basicK ws i with
    | .inl (some (t, k)) => ⟨true, i + k, [t]⟩
    | .inl none => ⟨false, i, []⟩
    | .inr k => ⟨false, i + k, []⟩)
  else ⟨false, i, []⟩
def nots (i : Nat) : Nat := ((ws.drop i).takeWhile fun w => decide (w = wNOT)).length
def coreG (orF : Nat → PR) (j : Nat) : PR :=
  if isA ws j wLP = true then (if (orF (j + 1)).ok = true then (if isA ws (orF (j + 1)).pos wRP = true then ⟨true, (orF (j + 1)).pos + 1, (orF (j + 1)).out⟩ else ⟨false, (orF (j + 1)).pos, (orF (j + 1)).out⟩) else ⟨false, (orF (j + 1)).pos, (orF (j + 1)).out⟩)
  else if isA ws j wFAILED = true then ⟨true, j + 1, [bare 3]⟩
  else basicV ws j
def partG (orF : Nat → PR) (i : Nat) : PR :=
  ⟨(coreG ws orF (i + nots ws i)).ok, (coreG ws orF (i + nots ws i)).pos, (coreG ws orF (i + nots ws i)).out ++ List.replicate (nots ws i) (bare 4)⟩
def chainL (pf : Nat → PR) (w : Bytes) (k : Int) : Nat → PR → PR
  | 0, a => a
  | n + 1, a => if isA ws a.pos w = true then
      (if (pf (a.pos + 1)).ok = true then chainL pf w k n ⟨true, (pf (a.pos + 1)).pos, a.out ++ (pf (a.pos + 1)).out ++ [bare k]⟩
      else ⟨false, (pf (a.pos + 1)).pos, a.out ++ (pf (a.pos + 1)).out⟩)
    else a
def chainG (pf : Nat → PR) (w : Bytes) (k : Int) (i : Nat) : PR :=
  if (pf i).ok = true then chainL ws pf w k (ws.length + 1) (pf i) else pf i
def andG (orF : Nat → PR) (i : Nat) : PR := chainG ws (partG ws orF) wAND 5 i
def orN : Nat → Nat → PR
  | 0, i => ⟨false, i, []⟩
  | m + 1, i => chainG ws (andG ws (orN m)) wOR 6 i
def kindW (w : Bytes) : Int := if w = wOR then 6 else if w = wAND then 5 else 4
def red (all : Bool) : List Test → List Bytes → List Test × List Bytes
  | out, [] => (out, [])
  | out, w :: o => if w = wLP ∨ (w = wOR ∧ all = false) then (out, w :: o) else red all (out ++ [bare (kindW w)]) o
def mach (i : Nat) (out : List Test) (op : List Bytes) (operand : Bool) : Except Nat (List Test) :=
  if h : i < ws.length then
    (if operand = true ∧ (ws.getD i [] = wNOT ∨ ws.getD i [] = wLP) then mach (i + 1) out (ws.getD i [] :: op) true
    else if operand = true ∧ ws.getD i [] = wFAILED then mach (i + 1) (out ++ [bare 3]) op false
    else if operand = true ∧ stepV (ws.getD i []) = true then (match basicK ws i with
      | .inl (some (t, k)) => if 0 < k then mach (i + k) (out ++ [t]) op false else .error i
      | .inl none => .error i
      | .inr k => .error (i + k))
    else if operand = false ∧ (ws.getD i [] = wAND ∨ ws.getD i [] = wOR) then mach (i + 1) (red (decide (ws.getD i [] = wOR)) out op).1 (ws.getD i [] :: (red (decide (ws.getD i [] = wOR)) out op).2) true
    else if operand = false ∧ ws.getD i [] = wRP then (if (red true out op).2 = [] then .error i else mach (i + 1) (red true out op).1 (red true out op).2.tail false)
    else .error i)
  else if operand = true ∨ (red true out op).2 ≠ [] then .error ws.length else .ok (red true out op).1
termination_by ws.length - i
end
section
variable {ws : List Bytes}
def pk (P : List Bytes) : List Test := P.map fun w => bare (kindW w)
theorem nots_take : ∀ (l : List Bytes) (i : Nat), ws.drop i = l → (nots ws i = 0 ∧ (i < ws.length → ws.getD i [] ≠ wNOT)) ∨ (nots ws i = nots ws (i + 1) + 1 ∧ i < ws.length ∧ ws.getD i [] = wNOT)
  | [], i, h => .inl ⟨by unfold nots; rw [h]; rfl, fun h2 => absurd (List.drop_eq_nil_iff.1 h) (by omega)⟩
  | x :: l, i, h => by
    have hi : i < ws.length := by
      by_cases h2 : i < ws.length
      · exact h2
      · rw [List.drop_of_length_le (by omega)] at h; cases h
    have hx : ws.getD i [] = x := by
      have := congrArg List.head? h
      rw [List.head?_drop, List.head?_cons] at this
      rw [List.getD_eq_getElem?_getD, this]; rfl
    have hr : ws.drop (i + 1) = l := by rw [← List.tail_drop, h]; rfl
    by_cases hn : x = wNOT
    · right
      refine ⟨?_, hi, by rw [hx, hn]⟩
      unfold nots
      rw [h, hr, List.takeWhile_cons, if_pos (by simpa using hn), List.length_cons]
    · left
      refine ⟨?_, fun _ => by rw [hx]; exact hn⟩
      unfold nots
      rw [h, List.takeWhile_cons, if_neg (by simpa using hn)]; rfl
theorem nots_case (i : Nat) : (nots ws i = 0 ∧ (i < ws.length → ws.getD i [] ≠ wNOT)) ∨ (nots ws i = nots ws (i + 1) + 1 ∧ i < ws.length ∧ ws.getD i [] = wNOT) := nots_take _ i rfl
theorem isA_iff {i : Nat} {w : Bytes} : isA ws i w = true ↔ i < ws.length ∧ ws.getD i [] = w := by unfold isA; simp
def Sim (ok : List Bytes → Prop) (f : Nat → PR) (O : List Bytes) : Prop := ∀ i out,
  ((f i).ok = true → ∃ out' P, ok P ∧ out' ++ pk P = out ++ (f i).out ∧ mach ws i out O true = mach ws (f i).pos out' (P ++ O) false) ∧
  ((f i).ok = false → mach ws i out O true = .error (f i).pos)
def okP (P : List Bytes) : Prop := ∀ w ∈ P, w = wNOT
def okA (P : List Bytes) : Prop := ∀ w ∈ P, w = wNOT ∨ w = wAND
def okO (P : List Bytes) : Prop := ∀ w ∈ P, w = wNOT ∨ w = wAND ∨ w = wOR
def Prog (ws : List Bytes) (f : Nat → PR) : Prop := ∀ i, i ≤ ws.length → (f i).pos ≤ ws.length ∧ ((f i).ok = true → i < (f i).pos)
end
end R40
end Go.Proofs.YtngjdmhpljmkpaaGreatDoor

namespace Go.Proofs.YtngjdmhpljmkpaaGreatDoor
open Go.GV
namespace R40
section
variable {ws : List Bytes}
def SimP (ws : List Bytes) (lo : Nat) (ok : List Bytes → Prop) (f : Nat → PR) (O : List Bytes) : Prop := ∀ i, lo ≤ i → i ≤ ws.length → ∀ out,
  ((f i).ok = true → ∃ out' P, ok P ∧ out' ++ pk P = out ++ (f i).out ∧ mach ws i out O true = mach ws (f i).pos out' (P ++ O) false) ∧
  ((f i).ok = false → mach ws i out O true = .error (f i).pos)
def Base (O : List Bytes) : Prop := O = [] ∨ ∃ r, O = wLP :: r
theorem Base.red {O : List Bytes} (h : Base O) (all : Bool) (out : List Test) : R40.red all out O = (out, O) := by
  rcases h with rfl | ⟨r, rfl⟩
  · rfl
  · rw [R40.red, if_pos (.inl rfl)]
end
end R40
end Go.Proofs.YtngjdmhpljmkpaaGreatDoor

namespace Go.Proofs.YtngjdmhpljmkpaaGreatDoor
open Go.GV
namespace R40
structure PT where
  out : List Test
  at_ : Int
  e : Int
def parseV (ws : List Bytes) : PT := if ws = [] then ⟨[], 0, 0⟩ else if (orN ws (ws.length + 1) 0).ok = false ∨ (orN ws (ws.length + 1) 0).pos < ws.length then ⟨[], (orN ws (ws.length + 1) 0).pos, 3⟩ else if 32 < (orN ws (ws.length + 1) 0).out.length then ⟨[], 0, 8⟩ else ⟨(orN ws (ws.length + 1) 0).out, 0, 0⟩
def machV (ws : List Bytes) : PT := if ws = [] then ⟨[], 0, 0⟩ else match mach ws 0 [] [] true with
  | .error i => ⟨[], i, 3⟩
  | .ok T => if 32 < T.length then ⟨[], 0, 8⟩ else ⟨T, 0, 0⟩
def strength : Node → Nat
  | .leaf _ _ => 2
  | .neg _ => 2
  | .pair b _ _ => if b = true then 1 else 0
def leafW (t : Test) : List Bytes := if t.Kind = 0 then [t.Step, wRC, rels.getD t.Op.toNat [], Lib.decDigits t.N.toNat] else if t.Kind = 1 then [t.Step, wFAILED] else if t.Kind = 2 then [t.Step, wRAN] else [wFAILED]
def inP (b : Bool) (l : List Bytes) : List Bytes := if b = true then [wLP] ++ l ++ [wRP] else l
def wordsV : Node → Nat → List Bytes
  | .leaf t _, least => inP (decide (2 < least)) (leafW t)
  | .neg x, least => inP (decide (2 < least)) ([wNOT] ++ wordsV x 2)
  | .pair b x y, least => inP (decide ((if b = true then 1 else 0) < least)) (wordsV x (if b = true then 1 else 0) ++ [if b = true then wAND else wOR] ++ wordsV y ((if b = true then 1 else 0) + 1))
def formatV (ts : List Test) : List Bytes := match treeV stepV ts with
  | none => []
  | some x => wordsV x 0
section
variable {ws : List Bytes}
def At (ws : List Bytes) (i : Nat) (l : List Bytes) : Prop := ∃ r, ws.drop i = l ++ r
theorem At.len {i : Nat} {l : List Bytes} (h : At ws i l) (hl : l ≠ []) : i + l.length ≤ ws.length := by
  obtain ⟨r, h⟩ := h
  have := congrArg List.length h
  rw [List.length_drop, List.length_append] at this
  have : 0 < l.length := List.length_pos_iff.2 hl
  omega
theorem At.app {i : Nat} {l m : List Bytes} (h : At ws i (l ++ m)) : At ws i l ∧ At ws (i + l.length) m := by
  obtain ⟨r, h⟩ := h
  refine ⟨⟨m ++ r, by rw [h, List.append_assoc]⟩, r, ?_⟩
  rw [← List.drop_drop, h, List.append_assoc, List.drop_left']
  rfl
theorem At.word {i : Nat} {w : Bytes} {l : List Bytes} (h : At ws i (w :: l)) : i < ws.length ∧ ws.getD i [] = w ∧ At ws (i + 1) l := by
  have h1 := h.len (List.cons_ne_nil _ _)
  have h2 := (At.app (l := [w]) (m := l) h).2
  obtain ⟨r, h⟩ := h
  refine ⟨by simp at h1; omega, ?_, h2⟩
  have := congrArg List.head? h
  rw [List.head?_drop, List.cons_append, List.head?_cons] at this
  rw [List.getD_eq_getElem?_getD, this]; rfl
theorem numC_dec {n : Int} (h0 : 0 ≤ n) (h1 : n ≤ 4095) : numC (Lib.decDigits n.toNat) = some n := by
  unfold numC
  rw [R44.dec_val, if_pos ⟨by omega, rfl⟩]
  congr 1; omega
theorem chainL_fuel {pf : Nat → PR} {w : Bytes} {k : Int} (hp : Prog ws pf) : ∀ (n m : Nat) (a : PR), a.pos ≤ ws.length → ws.length < a.pos + n → ws.length < a.pos + m → chainL ws pf w k n a = chainL ws pf w k m a
  | 0, _, a, h, hn, _ => absurd hn (by omega)
  | _ + 1, 0, a, h, _, hm => absurd hm (by omega)
  | n + 1, m + 1, a, h, hn, hm => by
    rw [chainL, chainL]
    split
    · rename_i h1
      have h0 := (isA_iff.1 h1).1
      have h2 := hp (a.pos + 1) (by omega)
      split
      · rename_i h3
        have := h2.2 h3
        exact chainL_fuel hp n m _ h2.1 (by show _ < (pf (a.pos + 1)).pos + n; omega) (by show _ < (pf (a.pos + 1)).pos + m; omega)
      · rfl
    · rfl
theorem chainL_no {pf : Nat → PR} {w : Bytes} {k : Int} {n : Nat} {a : PR} (h : isA ws a.pos w = false) : chainL ws pf w k n a = a := by
  cases n with
  | zero => rfl
  | succ n => rw [chainL, if_neg (by rw [h]; decide)]
def Cont (ws : List Bytes) (pf : Nat → PR) (w : Bytes) (k : Int) (i j : Nat) (T : List Test) : Prop := chainG ws pf w k i = chainL ws pf w k (ws.length + 1) ⟨true, j, T⟩
theorem Cont.first {pf : Nat → PR} {w : Bytes} {k : Int} {i j : Nat} {T : List Test} (h : pf i = ⟨true, j, T⟩) : Cont ws pf w k i j T := by
  unfold Cont chainG; rw [h, if_pos rfl]
theorem Cont.next {pf : Nat → PR} {w : Bytes} {k : Int} {i j j2 : Nat} {T T2 : List Test} (hp : Prog ws pf) (h : Cont ws pf w k i j T) (hw : isA ws j w = true) (h2 : pf (j + 1) = ⟨true, j2, T2⟩) : Cont ws pf w k i j2 (T ++ T2 ++ [bare k]) := by
  unfold Cont at *
  rw [h, chainL, if_pos hw, h2, if_pos rfl]
  have h0 := (isA_iff.1 hw).1
  have h3 := hp (j + 1) (by omega)
  rw [h2] at h3
  have h4 : j + 1 < j2 := h3.2 rfl
  exact chainL_fuel hp _ _ _ h3.1 (by show _ < j2 + _; omega) (by show _ < j2 + _; omega)
theorem Cont.done {pf : Nat → PR} {w : Bytes} {k : Int} {i j : Nat} {T : List Test} (h : Cont ws pf w k i j T) (hw : isA ws j w = false) : chainG ws pf w k i = ⟨true, j, T⟩ := by
  unfold Cont at h; rw [h, chainL_no hw]
def need : Node → Nat × Nat
  | .leaf _ _ => (0, 0)
  | .neg x => ((need x).2, (need x).2)
  | .pair _ x y => (max (need x).2 (need y).2, max (need x).2 (need y).2 + 1)
def L0 (ws : List Bytes) (m i j : Nat) (T : List Test) : Prop := Cont ws (andG ws (orN ws m)) wOR 6 i j T
def L1 (ws : List Bytes) (m i j : Nat) (T : List Test) : Prop := Cont ws (partG ws (orN ws m)) wAND 5 i j T
def L2 (ws : List Bytes) (m i j : Nat) (T : List Test) : Prop := partG ws (orN ws m) i = ⟨true, j, T⟩
end
end R40
end Go.Proofs.YtngjdmhpljmkpaaGreatDoor
