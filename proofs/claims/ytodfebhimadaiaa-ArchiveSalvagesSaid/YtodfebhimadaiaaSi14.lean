/- Si14: slices.Sorted(maps.Keys(m)) at a map from ints, by the shelf's contracts. -/
import Derived.Test.YtodfebhimadaiaaSh14
import Derived.Test.YtodfebhimadaiaaGvR
import Derived.Test.YtodfebhimadaiaaGvN
namespace Go.Proofs.Ytodfebhimadaiaa
open Go.GV Go.RowKit Go.Maps Go.Sort Go.Shelf Go.MapKept
def srt (xs : List Int) : List Int := xs.mergeSort fun x y => decide (x ≤ y)
theorem srt_length (xs : List Int) : (srt xs).length = xs.length := List.length_mergeSort xs
theorem srt_mem (xs : List Int) (x : Int) : x ∈ srt xs ↔ x ∈ xs := (List.mergeSort_perm xs _).mem_iff
def anyR : Value → Option (DataW Unit × List MemPlace) := fun _ => some (.nil, [])
theorem sortsA (m : Nat) : AnyZI.SortsIn Try.prog Try.sortedA_ren Fence.wide m :=
  ⟨fun blk off cap ss W hH hblk hsz => callsIn_wide.2 (AnyM.slices_Sort_int Try.sortA blk off cap ss W hH hblk hsz),
   fun p cap W => callsIn_wide.2 (AnyM.slices_Sort_int_none Try.sortA p cap W)⟩
theorem keys_ok (m : Nat) (w : World) : Calls Try.prog 47 #[Value.map (some m)] w (Gives [] w fun v L => ∃ p : Nat, v = Value.func (.func 69) #[] #[Value.pointer (some ⟨p, 0, none⟩)] ∧ L = [Ent.blk p 75 [Value.map (some m)]]) := by
  refine (callsIn_wide (n := 6)).1 ?_
  refine (AnyZI.keys_in Try.keysA Fence.wide 6 trivial rfl (some m) w).mono ?_
  rintro e w' ⟨rfl, rfl⟩
  refine ⟨_, _, rfl, ⟨w.heap.size, rfl, rfl⟩, ?_⟩
  exact (St.nil (Fr.refl [] w)).alloc _ _ rfl ⟨rfl, .inl (Nat.le_refl _)⟩
theorem fit_of {es : Array MapEntry} {clock : Nat} {l : List (Int × Value)} (h : Holds' vI es l) (hb : Born es clock) (hn : (l.map (·.1)).Nodup) (hr : ∀ p ∈ l, 0 ≤ p.1 ∧ p.1 ≤ 65535) (hl : l.length ≤ maxLen) :
    WideElems.Fit Try.prog 3 anyR es clock ∧ ∀ x ∈ es.toList, ∃ a : Int, x.key = vI a ∧ WideElems.rg Try.prog 3 anyR x = (Lit.int .i64 a, DataW.nil) ∧ a ∈ l.map (·.1) := by
  have hk : ∀ x ∈ es.toList, ∃ p ∈ l, x.key = vI p.1 := fun x hx => by
    have : (x.key, x.val) ∈ l.map (fun p => (vI p.1, p.2)) := by rw [← h]; exact List.mem_map.2 ⟨x, hx, rfl⟩
    obtain ⟨p, hp, e⟩ := List.mem_map.1 this
    simp only [Prod.mk.injEq] at e
    exact ⟨p, hp, e.1.symm⟩
  have hrd : ∀ x ∈ es.toList, ∃ a : Int, x.key = vI a ∧ WideElems.rd Try.prog 3 anyR x = some (Lit.int .i64 a, DataW.nil) ∧ a ∈ l.map (·.1) := fun x hx => by
    obtain ⟨p, hp, e⟩ := hk x hx
    have hw := hr p hp
    have hwf : (Lit.int .i64 p.1).wf = true := by
      simp [Lit.wf, IntKind.min, IntKind.max, IntKind.bits, IntKind.signed]
      omega
    refine ⟨p.1, e, ?_, List.mem_map.2 ⟨p, hp, rfl⟩⟩
    unfold WideElems.rd
    rw [e, keyOf_int_mk Try.underlying3 hwf]
    rfl
  have hkeys : es.toList.map (·.key) = (l.map (·.1)).map vI := by
    have := congrArg (List.map (·.1)) h
    simpa [List.map_map, Function.comp_def] using this
  have hsz : es.size = l.length := by
    have := congrArg List.length h
    simpa using this
  refine ⟨⟨by omega, ⟨hb.2, hb.1, ?_⟩, fun x hx => ?_⟩, fun x hx => ?_⟩
  · rw [hkeys]
    exact List.Pairwise.map _ (fun a b hab e => hab (by simpa using e)) hn
  · obtain ⟨a, _, e, _⟩ := hrd x hx
    exact ⟨_, e⟩
  · obtain ⟨a, e1, e, e2⟩ := hrd x hx
    exact ⟨a, e1, by unfold WideElems.rg; rw [e]; rfl, e2⟩
def keyInt (v : Value) : Int := match v with
  | .int _ a => a
  | _ => 0
theorem keys_perm_of {es : Array MapEntry} {clock : Nat} {l : List (Int × Value)} (h : Holds' vI es l) (hb : Born es clock) (hn : (l.map (·.1)).Nodup) (hr : ∀ p ∈ l, 0 ≤ p.1 ∧ p.1 ≤ 65535) (hl : l.length ≤ maxLen) :
    (intKeys (DataW.map ((es.toList.map (WideElems.rg Try.prog 3 anyR)).foldr DataW.insert []))).Perm (l.map (·.1)) := by
  have hf := (fit_of h hb hn hr hl).2
  have hkeys : es.toList.map (·.key) = (l.map (·.1)).map vI := by
    have := congrArg (List.map (·.1)) h
    simpa [List.map_map, Function.comp_def] using this
  have h1 : (es.toList.map (WideElems.rg Try.prog 3 anyR)).map (fun p => _root_.Go.intOf p.1) = l.map (·.1) := by
    rw [List.map_map]
    have : ∀ x ∈ es.toList, ((fun p : Lit × DataW Unit => _root_.Go.intOf p.1) ∘ WideElems.rg Try.prog 3 anyR) x = (keyInt ∘ fun x : MapEntry => x.key) x := fun x hx => by
      obtain ⟨a, e1, e2, _⟩ := hf x hx
      simp only [Function.comp_apply, e2, e1]
      rfl
    rw [List.map_congr_left this]
    rw [← List.map_map, hkeys, List.map_map, List.map_map]
    apply List.ext_getElem?
    intro i
    simp only [List.getElem?_map]
    cases l[i]? <;> rfl
  show (((es.toList.map (WideElems.rg Try.prog 3 anyR)).foldr DataW.insert []).map fun p => _root_.Go.intOf p.1).Perm _
  rw [← h1]
  exact (WideShapes.sorted_perm _).map _
theorem sorted_ok {α : Type} (mc : α → Int × Value) (m p : Nat) (fs : List α) (w : World) (hn : (fs.map fun x => (mc x).1).Nodup) (hr : ∀ x ∈ fs, 0 ≤ (mc x).1 ∧ (mc x).1 ≤ 65535) (hl : fs.length ≤ 1000000000)
    (hg : Give [m, p] w [Ent.mp vI m (fs.map mc), Ent.blk p 75 [Value.map (some m)]]) :
    Calls Try.prog 46 #[Value.func (.func 69) #[] #[Value.pointer (some ⟨p, 0, none⟩)]] w (Gives [m, p] w fun v L => ∃ (A : Option Addr) (c : Nat), v = Value.slice A (srt (fs.map fun x => (mc x).1)).length c ∧ L = [Ent.mp vI m (fs.map mc), Ent.blk p 75 [Value.map (some m)], Ent.row (.slice A (srt (fs.map fun x => (mc x).1)).length c) 3 1 (srt (fs.map fun x => (mc x).1)).length ((srt (fs.map fun x => (mc x).1)).map vI)]) := by
  obtain ⟨es, clock, hb, hes, hborn⟩ := mp_at (hg.hold (Ent.mp vI m (fs.map mc)) (by simp))
  have hp := hg.hold (Ent.blk p 75 [Value.map (some m)]) (by simp)
  have hn' : ((fs.map mc).map (·.1)).Nodup := by rw [List.map_map]; exact hn
  have hr' : ∀ q ∈ fs.map mc, 0 ≤ q.1 ∧ q.1 ≤ 65535 := fun q hq => by
    obtain ⟨x, hx, rfl⟩ := List.mem_map.1 hq
    exact hr x hx
  have hl' : (fs.map mc).length ≤ maxLen := by
    rw [List.length_map]
    exact Nat.le_trans hl (by decide)
  obtain ⟨F, _⟩ := fit_of hes hborn hn' hr' hl'
  have hperm := keys_perm_of hes hborn hn' hr' hl'
  rw [List.map_map] at hperm
  generalize hD : DataW.map ((es.toList.map (WideElems.rg Try.prog 3 anyR)).foldr DataW.insert []) = D0 at hperm
  have hsz : es.size = fs.length := by
    have := congrArg List.length hes
    simpa using this
  have hown : w.ownsMap Try.prog 3 anyR m es.size D0 := ⟨es, clock, hb, F, Nat.le_refl _, hD.symm⟩
  have hsize : Maps.size D0 = fs.length := by
    rw [← hD]
    show ((es.toList.map (WideElems.rg Try.prog 3 anyR)).foldr DataW.insert []).length = _
    rw [(WideShapes.sorted_perm _).length_eq, List.length_map, Array.length_toList, hsz]
  have hpb := hp.1
  have hpc : w.cell? ⟨p, 0, none⟩ = some (.map (some m)) := by
    obtain ⟨h1, _⟩ := blk_at hp
    simp [World.cell?, h1]
  have hplt : p < w.heap.size := hp.2 p rfl
  have hmax : Maps.size D0 ≤ maxLen := by rw [hsize]; exact Nat.le_trans hl (by decide)
  have hseq : SeqGives Fence.wide 2 Try.prog 69 #[.pointer (some ⟨p, 0, none⟩)] encZ (fun ss => ss.Perm (intKeys D0)) (Maps.size D0) w :=
    AnyZI.keys_gives (ρ := Try.keysA_ren) { Try.keysA with } Fence.wide _ trivial rfl (by omega) p m es.size D0 w hplt hpc hown
  have cS := AnyZI.sorted_in Try.sortedA Fence.wide 5 trivial trivial trivial trivial rfl (by omega) (sortsA _) (enters_of Try.func68 (by kernel_rfl) rfl) 69 #[.pointer (some ⟨p, 0, none⟩)] trivial (enters_of Try.func69 (by kernel_rfl) rfl) _ _ hmax (by rw [hsize]; omega) w hseq
  refine ((callsIn_wide (n := 5)).1 cS).mono ?_
  rintro e w' ⟨v, ss, rfl, hS, hrow, hnil, hbel⟩
  have hss : ss.mergeSort (fun x y => decide (x ≤ y)) = srt (fs.map fun x => (mc x).1) := mergeSort_of_perm_i (hS.trans hperm)
  have hlen : ss.length = (srt (fs.map fun x => (mc x).1)).length := by rw [← hss, List.length_mergeSort]
  rw [hss, hlen] at hrow
  have hfr : Fr [] w w' := Fr.of_below hbel
  have hst : St [m, p] w w' [Ent.mp vI m (fs.map mc), Ent.blk p 75 [Value.map (some m)]] := hg.start.step hfr
  have hrat := owns_row hrow
  have hown2 : ∀ b, (Ent.row v 3 1 (srt (fs.map fun x => (mc x).1)).length ((srt (fs.map fun x => (mc x).1)).map vI)).own = some b → w.heap.size ≤ b := fun b hb => (hrow.lt b hb).1
  obtain ⟨A, c, hv⟩ : ∃ (A : Option Addr) (c : Nat), v = Value.slice A (srt (fs.map fun x => (mc x).1)).length c := by
    rcases hrow.2 with h2 | ⟨g, cap, cur, rfl, _⟩
    · exact ⟨none, 0, by rw [h2.1, h2.2]⟩
    · exact ⟨_, _, rfl⟩
  subst hv
  refine ⟨_, _, rfl, ⟨A, c, rfl, rfl⟩, hst.fr, ?_, ?_, ?_⟩
  · intro x hx
    simp only [List.mem_cons, List.not_mem_nil, or_false] at hx
    rcases hx with rfl | rfl | rfl
    · exact hst.hold _ (by simp)
    · exact hst.hold _ (by simp)
    · exact hrat
  · have hd := hst.dis
    refine List.pairwise_cons.2 ⟨fun y hy => ?_, List.pairwise_cons.2 ⟨fun y hy => ?_, List.pairwise_singleton _ _⟩⟩
    · simp only [List.mem_cons, List.not_mem_nil, or_false] at hy
      rcases hy with rfl | rfl
      · exact (List.pairwise_cons.1 hd).1 _ (by simp)
      · intro b hb hb2
        have h1 := hown2 b hb2
        have h3 := (hg.hold (Ent.mp vI m (fs.map mc)) (by simp)).2 b hb
        omega
    · simp only [List.mem_cons, List.not_mem_nil, or_false] at hy
      subst hy
      intro b hb hb2
      have h1 := hown2 b hb2
      have h3 := hp.2 b hb
      omega
  · intro x hx b hb
    simp only [List.mem_cons, List.not_mem_nil, or_false] at hx
    rcases hx with rfl | rfl | rfl
    · exact .inl (hg.own _ (by simp) b hb)
    · exact .inl (hg.own _ (by simp) b hb)
    · exact .inr (hown2 b hb)
end Go.Proofs.Ytodfebhimadaiaa
