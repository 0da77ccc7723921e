/- GvK: a base world that moves: loops and calls behind which what was made becomes old memory (it can be read, and is no longer owned). -/
import Derived.Test.YtmbinhhlfbgiaaaGvN
namespace Go.GV
open Go.RowKit
theorem RO.again {S : List Nat} {w0 w : World} {A : Option Addr} {cs : List Value} {L : List Ent} (h : RO S w0 A cs) (hS : St S w0 w L) : RO (Lown L) w A cs :=
  h.on (Lc := L) (Lr := []) (by rw [List.append_nil]; exact hS) lown_mem
theorem RO.mono {S S' : List Nat} {w : World} {A : Option Addr} {cs : List Value} (h : RO S w A cs) (hs : ∀ b ∈ S', b ∈ S) : RO S' w A cs := fun j v hv => by
  obtain ⟨a, e, hb, hn, hc⟩ := h j v hv
  exact ⟨a, e, hb, fun hh => hn (hs _ hh), hc⟩
theorem RO.no {S : List Nat} {w : World} {A : Option Addr} {cs : List Value} (h : RO S w A cs) : RO [] w A cs := h.mono (fun _ hb => by cases hb)
theorem RO.fromF {S F : List Nat} {w : World} {A : Option Addr} {cs : List Value} (h : RO (S ++ F) w A cs) : RO S w A cs := h.mono fun _ hb => List.mem_append.2 (.inl hb)
theorem RO.freshF {S F : List Nat} {w : World} {A : Option Addr} {cs : List Value} (h : RO (S ++ F) w A cs) : RO F w A cs := h.mono fun _ hb => List.mem_append.2 (.inr hb)
theorem RO.againF {S F : List Nat} {w0 w : World} {A : Option Addr} {cs : List Value} {L : List Ent} (h : RO (S ++ F) w0 A cs) (hS : St S w0 w L) : RO (Lown L ++ F) w A cs := fun j v hv => by
  obtain ⟨a, e, hb, hn, hc⟩ := h.fromF.again hS j v hv
  refine ⟨a, e, hb, fun hh => ?_, hc⟩
  rcases List.mem_append.1 hh with hh | hh
  · exact hn hh
  · obtain ⟨a2, e2, _, hn2, _⟩ := h.freshF j v hv
    rw [e] at e2; injection e2 with e2; subst e2
    exact hn2 hh
theorem RO.of_rowF {S : List Nat} {w00 w0 w : World} {Lc Lr : List Ent} (hS : St S w0 w (Lc ++ Lr)) (h0 : St [] w00 w (Lc ++ Lr)) (j : Nat) {e : TypeId} {sz n c : Nat} {A : Option Addr} {cs : List Value} (hj : Lr[j]? = some (Ent.row (.slice A n c) e sz n cs)) : RO (Lown Lc ++ List.range w00.heap.size) w A cs := fun jj v hv => by
  obtain ⟨a, ha, hb, hn, hc⟩ := RO.of_rowS (Sc := Lown Lc) hS lown_mem j hj jj v hv
  refine ⟨a, ha, hb, fun hh => ?_, hc⟩
  rcases List.mem_append.1 hh with hh | hh
  · exact hn hh
  · subst ha
    rcases h0.own _ (List.mem_append.2 (.inr (List.mem_of_getElem? hj))) a.block rfl with h1 | h1
    · cases h1
    · exact absurd (List.mem_range.1 hh) (by omega)
theorem lown_range {S : List Nat} {w0 w : World} {L : List Ent} (hS : St S w0 w L) : ∀ b ∈ Lown L, b ∈ List.range w.heap.size := fun b hb => by
  obtain ⟨e, he, ho⟩ := lown_mem b hb
  exact List.mem_range.2 ((hS.hold e he).2 b ho)
theorem St.back {S : List Nat} {w0 wb : World} {L0 : List Ent} (h : St S w0 wb L0) (w : World) (L : List Ent) (h' : St (Lown L0) wb w L) : St S w0 w L := by
  have := St.after (Lc := L0) (Lr := []) (by rw [List.append_nil]; exact h) lown_mem h'
  rwa [List.append_nil] at this
theorem St.base {S : List Nat} {w0 w : World} {L : List Ent} (h : St S w0 w L) : St (Lown L) w w L :=
  ⟨Fr.refl _ _, h.hold, h.dis, fun e he b hb => .inl (lown_in e he b hb)⟩
def GivesW (S : List Nat) (w : World) (φ : Value → List Ent → World → Prop) : Ending → World → Prop :=
  fun e w' => ∃ v L', e = .returned v ∧ φ v L' w' ∧ St S w w' L'
section
variable {P : Program} {n : Nat} {S : List Nat} {w0 : World} {Q : Post} {E : Env} {L : List Ent}
theorem calls_JW {f : FuncId} {fn : Func} {c : Code} {args : Array Value} {w : World} {φ : Value → List Ent → World → Prop} {L0 : List Ent} (S : List Nat) (n : Nat)
    (hf : P.funcs[f]? = some fn) (hb : fn.body = some c) (hm : fn.ntmps = n) (E : Env) (hE : E = envOf 0 args.toList) (hn : Nat.ble args.size n = true)
    (hg : Give S w L0) (h : J P n S w c (bodyPost P fn (GivesW S w φ)) E L0) : Calls P f args w (GivesW S w φ) := by
  subst hm
  have hn := Nat.le_of_ble_eq_true hn
  refine calls_of_wp hf hb (h _ w ⟨rfl, ?_, ?_⟩ hg.start)
  · simp; omega
  · intro t v hv
    rw [hE] at hv
    have h1 : args[t]? = some v := by have := (get_envOf _ _ _ _ hv).2; simpa using this
    obtain ⟨hlt, h2⟩ := Array.getElem?_eq_some_iff.1 h1
    simp only [Array.getD_eq_getD_getElem?]
    rw [Array.getElem?_append_left hlt, h1]
    rfl
theorem JX_retsB {fn : Func} {rs : List ResultVar} {S1 : List Nat} {w1 : World} {φ : Value → List Ent → World → Prop} (vs : List Value) (v : Value) (hr : fn.results = rs.toArray) (hv : ∀ w, St S w0 w L → resAll P E w rs vs)
    (hvv : v = (if h : vs.length = 1 then vs[0] else .tuple vs.toArray)) (L' : List Ent) (hL : ∀ w, St S w0 w L → St S w0 w L') (hB : ∀ w L, St S w0 w L → St S1 w1 w L) (hφ : ∀ w, St S w0 w L' → φ v L' w) :
    JX n S w0 (bodyPost P fn (GivesW S1 w1 φ)) .ret E L := by
  intro a w hR hS
  have h0 := JX_rets (P := P) (n := n) (S := S) (w0 := w0) (E := E) (L := L) (φ := fun u L2 => u = v ∧ L2 = L') vs v hr hv hvv L' hL ⟨rfl, rfl⟩ a w hR hS
  obtain ⟨hd, u, hu, u2, L2, he, hp, hs⟩ := h0
  obtain ⟨rfl, rfl⟩ := hp
  exact ⟨hd, u, hu, u2, L2, he, hφ w hs, hB w _ hs⟩
theorem JX_retsC {fn : Func} {rs : List ResultVar} {S1 : List Nat} {w1 : World} {φ : Value → List Ent → Prop} (vs : List Value) (v : Value) (hr : fn.results = rs.toArray) (hv : ∀ w, St S w0 w L → resAll P E w rs vs)
    (hvv : v = (if h : vs.length = 1 then vs[0] else .tuple vs.toArray)) (L' : List Ent) (hL : ∀ w, St S w0 w L → St S w0 w L') (hB : ∀ w L, St S w0 w L → St S1 w1 w L) (hφ : φ v L') :
    JX n S w0 (bodyPost P fn (Gives S1 w1 φ)) .ret E L := JX_retsB (φ := fun v L _ => φ v L) vs v hr hv hvv L' hL hB fun _ _ => hφ
def RoundB {X : Type} (n : Nat) (S : List Nat) (w0 : World) (I : X → Prop) (W : X → World → Prop) (Ef : X → Env) (Lf : X → List Ent) (μ : X → Nat) (m : Nat) (Q : Post) : Post :=
  Exit.then (fun a w => ∃ x, I x ∧ W x w ∧ μ x < m ∧ Rep n (Ef x) a ∧ St S w0 w (Lf x)) Q
theorem J_loopB {X : Type} {c : Code} (I : X → Prop) (W : X → World → Prop) (Ef : X → Env) (Lf : X → List Ent) (μ : X → Nat) (x0 : X) (h0 : I x0) (hE : SubE E (Ef x0)) (hL : ∀ w, St S w0 w L → St S w0 w (Lf x0)) (hW : ∀ w, St S w0 w L → W x0 w)
    (round : ∀ x wb, I x → W x wb → St S w0 wb (Lf x) → J P n (Lown (Lf x)) wb c (RoundB n S w0 I W Ef Lf μ (μ x) Q) (Ef x) (Lf x)) : J P n S w0 (.loop c) Q E L := by
  intro a w hR hS
  refine wp_loop_ghost (fun m a w => ∃ x, I x ∧ W x w ∧ μ x = m ∧ Rep n (Ef x) a ∧ St S w0 w (Lf x)) (μ x0) ⟨x0, h0, hW w hS, rfl, hR.sub hE, hL w hS⟩ ?_
  rintro m a w ⟨x, hI, hWx, rfl, hR, hS⟩
  refine wp_mono (round x w hI hWx hS a w hR hS.base) ?_
  intro e a' w' hq
  cases e with
  | normal => obtain ⟨x', h1, h2, h3, h4, h5⟩ := hq; exact ⟨μ x', h3, x', h1, h2, rfl, h4, h5⟩
  | _ => exact hq
theorem JX_roundB {X : Type} {S1 : List Nat} {w1 : World} {I : X → Prop} {W : X → World → Prop} {Ef : X → Env} {Lf : X → List Ent} {μ : X → Nat} {m : Nat} (x : X) (hI : I x) (hm : μ x < m) (hE : SubE E (Ef x)) (hB : ∀ w L, St S w0 w L → St S1 w1 w L) (hL : ∀ w, St S w0 w L → St S w0 w (Lf x)) (hW : ∀ w, St S w0 w L → W x w) :
    JX n S w0 (RoundB n S1 w1 I W Ef Lf μ m Q) .normal E L := fun _ w hR hS => ⟨x, hI, hW w hS, hm, hR.sub hE, hB w _ (hL w hS)⟩
theorem JX_roundB_exit {X : Type} {S1 : List Nat} {w1 : World} {I : X → Prop} {W : X → World → Prop} {Ef : X → Env} {Lf : X → List Ent} {μ : X → Nat} {m id : Nat} (h : JX n S w0 Q (.exit id) E L) : JX n S w0 (RoundB n S1 w1 I W Ef Lf μ m Q) (.exit id) E L := h
theorem JX_roundB_ret {X : Type} {S1 : List Nat} {w1 : World} {I : X → Prop} {W : X → World → Prop} {Ef : X → Env} {Lf : X → List Ent} {μ : X → Nat} {m : Nat} (h : JX n S w0 Q .ret E L) : JX n S w0 (RoundB n S1 w1 I W Ef Lf μ m Q) .ret E L := h
section
variable {ops : Array Oper} {o : Oper} {Lg Lu : List Ent} {us : List Nat} {fuel : Nat} {listed : Array Bool}
theorem JA_shunU (i : Nat) (hi : ops[i]? = some o) (hs : Region.noSelect ops = true) (hf : Region.free .any ops listed i = true) (hr : (Region.ready .any ops listed).contains i = true) (hu : us.contains i = false)
    (hQ : ∀ c a w, Q (.panic c) (a.put o.dst undef) w → Q (.panic c) a w) (hd : dstOk n o.dst = true) (hw : gundef ops E o)
    (h : JA P n S w0 ops Q Lg us Lu fuel (listed.setIfInBounds i true) (put E o.dst undef) L) : JA P n S w0 ops Q Lg us Lu (fuel + 1) listed E L := by
  intro a w hR hS hcl
  have hr' : i ∈ Region.ready .any ops listed := by simpa using hr
  refine wpAnyG_first (H := fun _ => True) hi (Region.noSelect_spec hs) hQ (fun _ _ _ _ _ => trivial) (fun l w _ hl h => ⟨h.1, fun hh => h.2 (by rw [all_unset hu]; exact hh)⟩) fuel listed a w hcl (Region.free_spec hi hf) hr' (.inr ⟨gundef_wanted hR hw, rfl⟩) (h _ w (hR.put (fun d hd' => ?_) undef) hS (hcl.add hr'))
  rw [hd'] at hd
  simpa [dstOk, Nat.blt_eq] using hd
end
section
variable {ops : Array Oper} {o : Oper} {rest : List Oper}
theorem JO_callB (Sc : List Nat) (Lc Lr : List Ent) {f : FuncId} {args : Array Value} {φ : World → Value → List Ent → World → Prop} (hfit : fit n E o = true) (hw : wants ops E o)
    (hr : ∀ w, (execOp (ev E) o).run P w = .ok (.enter f args) w) (hL : ∀ w, St S w0 w L → St S w0 w (Lc ++ Lr)) (hS : ∀ b ∈ Sc, ∃ e ∈ Lc, e.own = some b)
    (hc : ∀ w, St S w0 w (Lc ++ Lr) → Calls P f args w (GivesW Sc w (φ w))) (h : ∀ w v L' w', φ w v L' w' → St S w0 w (Lc ++ Lr) → St S w0 w' (L' ++ Lr) → JO P n (Lown (L' ++ Lr)) w' ops rest Q (put E o.dst v) (L' ++ Lr)) : JO P n S w0 ops (o :: rest) Q E L := by
  intro a w hR hSt
  unfold wpList
  rw [if_pos (wants_wanted hR hw)]
  refine .inl ?_
  unfold Oper.wp
  rw [fit_exec hfit hR, hr w]
  refine (hc w (hL w hSt)).mono ?_
  rintro e w' ⟨v, L', rfl, hφ, hS'⟩
  have hs := (hL w hSt).after hS hS'
  exact h w v L' w' hφ (hL w hSt) hs _ _ (hR.put (fit_dst hfit) v) hs.base
end
end
end Go.GV
