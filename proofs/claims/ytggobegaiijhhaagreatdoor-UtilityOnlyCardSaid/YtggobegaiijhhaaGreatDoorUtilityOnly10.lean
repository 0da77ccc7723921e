/- GvPa, Pl45, GvIp, Mt45, GvAb, GvKm, Mn in one text. -/
import Derived.Test.YtggobegaiijhhaaGreatDoorUtilityOnly7
import Derived.LoopNIn
import Derived.Test.YtggobegaiijhhaaGreatDoorUtilityOnly9
import Derived.Shelf.SlMaps.Clone
set_option linter.unusedVariables false
set_option linter.unusedSimpArgs false
namespace Go.GV
open Go.RowKit
def GivesE (S:List Nat) (w:World) (φ:Value→List Ent→Prop) (π:List PanicEntry→List Ent→Prop):Ending→World→Prop
  | .returned v,w'=>∃ L',φ v L'∧St S w w' L'
  | .panicked c,w'=>∃ L',π c L'∧St S w w' L'
  | .outgrown,_=>False
section
variable {P:Program} {n:Dim} {S:List Nat} {w0 w:World} {Q:Post} {E:Env} {L:List Ent}
theorem GivesE.of {φ:Value→List Ent→Prop} {π:List PanicEntry→List Ent→Prop} {e:Ending} {w':World} (h:Gives S w φ e w'):GivesE S w φ π e w':=by
  obtain ⟨v,L',rfl,h1,h2⟩:=h;exact ⟨L',h1,h2⟩
theorem calls_JE {f:FuncId} {fn:Func} {c:Code} {args:Array Value} {w:World} {φ:Value→List Ent→Prop} {π:List PanicEntry→List Ent→Prop} {L0:List Ent} (S:List Nat) (n:Nat)
    (hf:P.funcs[f]? = some fn) (hb:fn.body=some c) (hm:fn.ntmps=n) (E:Env) (hE:E=envOf 0 args.toList) (hn:Nat.ble args.size n=true)
    (hg:Give S w L0) (h:J P { sz:=n } S w c (bodyPost P fn (GivesE S w φ π)) E L0):Calls P f args w (GivesE S w φ π):=by
  subst hm
  have hn:=Nat.le_of_ble_eq_true hn
  refine (callsIn_wide (n:=0)).1 (callsIn_of_wp (F:=Fence.wide) hf hb trivial (h _ w ⟨rfl,?_,?_⟩ hg.start) rfl)
  · simp;omega
  · intro t v hv
    rw [hE] at hv
    have h1:args[t]? = some v:=by have:=(get_envOf _ _ _ _ hv).2;simpa using this
    obtain ⟨hlt,h2⟩:=Array.getElem?_eq_some_iff.1 h1
    simp only [Array.getD_eq_getD_getElem?]
    rw [Array.getElem?_append_left hlt,h1]
    rfl
theorem JX_Er {fn:Func} {S1:List Nat} {w1:World} {φ:Value→List Ent→Prop} {π:List PanicEntry→List Ent→Prop} (h:JX n S w0 (bodyPost P fn (Gives S1 w1 φ)) .ret E L):JX n S w0 (bodyPost P fn (GivesE S1 w1 φ π)) .ret E L:=fun a w hR hS=>by
  obtain ⟨hd,v,hr,hG⟩:=h a w hR hS;exact ⟨hd,v,hr,GivesE.of hG⟩
theorem JX_En {fn:Func} {S1:List Nat} {w1:World} {φ:Value→List Ent→Prop} {π:List PanicEntry→List Ent→Prop} (h:JX n S w0 (bodyPost P fn (Gives S1 w1 φ)) .normal E L):JX n S w0 (bodyPost P fn (GivesE S1 w1 φ π)) .normal E L:=fun a w hR hS=>by
  obtain ⟨hd,v,hr,hG⟩:=h a w hR hS;exact ⟨hd,v,hr,GivesE.of hG⟩
theorem JX_pan {fn:Func} {S1:List Nat} {w1:World} {φ:Value→List Ent→Prop} {π:List PanicEntry→List Ent→Prop} {c:List PanicEntry} (L':List Ent) (hL:∀ w,St S w0 w L→St S w0 w L') (hB:∀ w L,St S w0 w L→St S1 w1 w L) (hπ:π c L') (hd:n.ds=[]:=by rfl) :
    JX n S w0 (bodyPost P fn (GivesE S1 w1 φ π)) (.panic c) E L:=fun _ w hR hS=>⟨hR.defers.trans hd,L',hπ,hB _ _ (hL w hS)⟩
theorem JX_then_pan {K:Act→World→Prop} {c:List PanicEntry} (h:JX n S w0 Q (.panic c) E L):JX n S w0 (Exit.then K Q) (.panic c) E L:=h
theorem JX_block_pan {id:Nat} {c:List PanicEntry} (h:JX n S w0 Q (.panic c) E L):JX n S w0 (Exit.inBlock id Q) (.panic c) E L:=h
theorem JX_round_pan {X:Type} {n0:Dim} {S1:List Nat} {w1:World} {I:X→Prop} {Ef:X→Env} {Lf:X→List Ent} {μ:X→Nat} {m:Nat} {c:List PanicEntry} (h:JX n S w0 Q (.panic c) E L):JX n S w0 (Round n0 S1 w1 I Ef Lf μ m Q) (.panic c) E L:=h
section
variable {ops:Array Oper} {o:Oper} {rest:List Oper}
theorem JO_pan (v:Value) (hfit:fit n E o=true) (hw:wants ops E o) (hx:∀ w,(execOp (ev E) o).run P w = .halt (.panic v) w) (h:JX n S w0 Q (.panic [{ v:=v,recovered:=false }]) E L):JO P n S w0 ops (o::rest) Q E L:=by
  intro a w hR hSt
  unfold wpListIn
  rw [if_pos (wants_wanted hR hw)]
  refine ⟨fun _ _=>trivial,?_⟩
  rw [fit_sem hfit hR,hx w]
  exact h a w hR hSt
theorem x_panic {x:Operand} {dst:Option Nat} {ty:TypeId} {pos:String} {af:Array Edge} {g:Option (Nat × Bool)} {t:TypeId} {v:Value} (hx:ev E x = .iface t v):∀ w,(execOp (ev E) ⟨dst,.panic x,ty,pos,af,g⟩).run P w = .halt (.panic (.iface t v)) w:=by
  intro w
  simp only [execOp,hx];rfl
theorem JO_callE (Sc:List Nat) (Lc Lr:List Ent) {f:FuncId} {args:Array Value} {φ:Value→List Ent→Prop} {π:List PanicEntry→List Ent→Prop} (hfit:fit n E o=true) (hw:wants ops E o)
    (hr:∀ w,(execOp (ev E) o).run P w = .ok (.enter f args) w) (hL:∀ w,St S w0 w L→St S w0 w (Lc++Lr)) (hS:∀ b∈Sc,∃ e∈Lc,e.own=some b)
    (hc:∀ w,St S w0 w (Lc++Lr)→Calls P f args w (GivesE Sc w φ π)) (h:∀ v L',φ v L'→JO P n S w0 ops rest Q (put E o.dst v) (L'++Lr)) (hp:∀ c L',π c L'→JX n S w0 Q (.panic c) E (L'++Lr)):JO P n S w0 ops (o::rest) Q E L:=by
  intro a w hR hSt
  unfold wpListIn
  rw [if_pos (wants_wanted hR hw)]
  refine ⟨fun _ _=>trivial,?_⟩
  rw [fit_sem hfit hR,hr w]
  refine ⟨fun h=>(by cases h),(callsIn_wd (m:=0-1)).2 ((hc w (hL w hSt)).mono ?_)⟩
  intro e w' hG
  cases e with
  | returned v=>obtain ⟨L',hφ,hS'⟩:=hG;exact h v L' hφ _ _ (hR.put (fit_dst hfit) v) ((hL w hSt).after hS hS')
  | panicked c=>obtain ⟨L',hπ,hS'⟩:=hG;exact hp c L' hπ _ _ hR ((hL w hSt).after hS hS')
  | outgrown=>exact hG.elim
variable {Lg Lu:List Ent} {us:List Nat} {fuel:Nat} {listed:Array Bool}
theorem JI_callE {i:Nat} (Sc:List Nat) (Lc Lr:List Ent) {f:FuncId} {args:Array Value} {φ:Value→List Ent→Prop} {π:List PanicEntry→List Ent→Prop} (hi:ops[i]? = some o) (hfit:fit n E o=true) (hw:wants ops E o)
    (hr:∀ w,(execOp (ev E) o).run P w = .ok (.enter f args) w) (hL:∀ w,St S w0 w L→St S w0 w (Lc++Lr)) (hS:∀ b∈Sc,∃ e∈Lc,e.own=some b)
    (hc:∀ w,St S w0 w (Lc++Lr)→Calls P f args w (GivesE Sc w φ π))
    (h:∀ v L',φ v L'→JA P n S w0 ops Q Lg us Lu fuel (listed.setIfInBounds i true) (put E o.dst v) (L'++Lr)) (hp:∀ c L',π c L'→JX n S w0 Q (.panic c) E (L'++Lr)):JI P n S w0 ops Q Lg us Lu fuel listed E L i:=by
  intro a w hR hSt hcl
  unfold wpOpIn
  rw [hi]
  simp only [wants_wanted hR hw,if_true]
  refine ⟨fun _ _=>trivial,?_⟩
  rw [fit_sem hfit hR,hr w]
  refine ⟨fun h=>(by cases h),(callsIn_wd (m:=0-1)).2 ((hc w (hL w hSt)).mono ?_)⟩
  intro e w' hG
  cases e with
  | returned v=>obtain ⟨L',hφ,hS'⟩:=hG;exact h v L' hφ _ _ (hR.put (fit_dst hfit) v) ((hL w hSt).after hS hS') hcl
  | panicked c=>obtain ⟨L',hπ,hS'⟩:=hG;exact hp c L' hπ _ _ hR ((hL w hSt).after hS hS')
  | outgrown=>exact hG.elim
end
theorem JO_callP {ops:Array Oper} {o:Oper} {rest:List Oper} (Sc:List Nat) (Lc Lr:List Ent) {f:FuncId} {args:Array Value} {φ:Value→List Ent→Prop} {π:List PanicEntry→List Ent→Prop} (hfit:fit n E o=true) (hw:wants ops E o)
    (hr:∀ w,(execOp (ev E) o).run P w = .ok (.enter f args) w) (hL:∀ w,St S w0 w L→St S w0 w (Lc++Lr)) (hS:∀ b∈Sc,∃ e∈Lc,e.own=some b)
    (hc:∀ w,St S w0 w (Lc++Lr)→Calls P f args w (GivesE Sc w φ π)) (hp:∀ c L',π c L'→JX n S w0 Q (.panic c) E (L'++Lr)) (h:∀ v L',φ v L'→JO P n S w0 ops rest Q (put E o.dst v) (L'++Lr)):JO P n S w0 ops (o::rest) Q E L:=
  JO_callE Sc Lc Lr hfit hw hr hL hS hc h hp
theorem JI_callP {ops:Array Oper} {o:Oper} {Lg Lu:List Ent} {us:List Nat} {fuel:Nat} {listed:Array Bool} {i:Nat} (Sc:List Nat) (Lc Lr:List Ent) {f:FuncId} {args:Array Value} {φ:Value→List Ent→Prop} {π:List PanicEntry→List Ent→Prop} (hi:ops[i]? = some o) (hfit:fit n E o=true) (hw:wants ops E o)
    (hr:∀ w,(execOp (ev E) o).run P w = .ok (.enter f args) w) (hL:∀ w,St S w0 w L→St S w0 w (Lc++Lr)) (hS:∀ b∈Sc,∃ e∈Lc,e.own=some b)
    (hc:∀ w,St S w0 w (Lc++Lr)→Calls P f args w (GivesE Sc w φ π)) (hp:∀ c L',π c L'→JX n S w0 Q (.panic c) E (L'++Lr))
    (h:∀ v L',φ v L'→JA P n S w0 ops Q Lg us Lu fuel (listed.setIfInBounds i true) (put E o.dst v) (L'++Lr)):JI P n S w0 ops Q Lg us Lu fuel listed E L i:=
  JI_callE Sc Lc Lr hi hfit hw hr hL hS hc h hp
theorem JX_end0C {fn:Func} {S1:List Nat} {w1:World} {φ:Value→List Ent→Prop} (hr:fn.results = #[]) (L':List Ent) (hL:∀ w,St S w0 w L→St S w0 w L') (hB:∀ w L,St S w0 w L→St S1 w1 w L) (hφ:φ (.tuple #[]) L') (hd:n.ds=[]:=by rfl) :
    JX n S w0 (bodyPost P fn (Gives S1 w1 φ)) .normal E L:=fun a w hR hS=>⟨hR.defers.trans hd,_,results_none hr _ _ _,_,L',rfl,hφ,hB _ _ (hL w hS)⟩
def JR (P:Program) (n:Dim) (S:List Nat) (w0:World) (c:Code) (Q:Post) (m:Nat) (E:Env) (L:List Ent):Prop:=∀ a w,Rep n E a→St S w0 w L→Code.roundsIn (Wd n.ro) 0 P c Q m a w
theorem J_unroll {c:Code} (m:Nat) (h:JR P n S w0 c Q m E L):J P n S w0 (.loop c) Q E L:=fun a w hR hS=>wpIn_loop_rounds m (h a w hR hS)
theorem JR_one {c:Code} {m:Nat} (h:J P n S w0 c (Exit.then (Code.roundsIn (Wd n.ro) 0 P c Q m) Q) E L):JR P n S w0 c Q (m+1) E L:=h
theorem JX_again {c:Code} {m:Nat} (h:JR P n S w0 c Q m E L):JX n S w0 (Exit.then (Code.roundsIn (Wd n.ro) 0 P c Q m) Q) .normal E L:=h
end
end Go.GV
namespace Go.Proofs.YtggobegaiijhhaaGreatDoor
open Go.GV
namespace R45
def pan (s:Bytes):List PanicEntry:=[{ v:=.iface 77 (.agg #[vS s,vI 0]),recovered:=false }]
theorem getD_mem {α:Type} {d:α} {l:List α} {k:Nat} (h:k<l.length):l.getD k d∈l:=by rw [List.getD_eq_getElem?_getD,List.getElem?_eq_getElem h];exact List.getElem_mem h
theorem take_snoc {α:Type} {d:α} {l:List α} {k:Nat} (h:k<l.length):l.take (k+1)=l.take k++[l.getD k d]:=by rw [List.take_add_one,List.getElem?_eq_getElem h,List.getD_eq_getElem?_getD,List.getElem?_eq_getElem h];rfl
theorem drop_cons {α:Type} {d:α} {l:List α} {k:Nat} (h:k<l.length):l.drop k=l.getD k d::l.drop (k+1):=by rw [List.getD_eq_getElem?_getD,List.getElem?_eq_getElem h];exact List.drop_eq_getElem_cons h
theorem mem_getD {α:Type} {d:α} {l:List α} {x:α} (h:x∈l):∃ k,k<l.length∧l.getD k d=x:=by
  obtain ⟨k,hk,rfl⟩:=List.getElem_of_mem h
  exact ⟨k,hk,by rw [List.getD_eq_getElem?_getD,List.getElem?_eq_getElem hk];rfl⟩
def keyC (a b:SRow):Int:=if Op.bytesLess a.Key b.Key=true then -1 else if Op.bytesLess b.Key a.Key=true then 1 else 0
theorem keyC_lt {a b:SRow} : keyC a b≤0↔Op.bytesLess b.Key a.Key=false:=by
  unfold keyC
  by_cases h1:Op.bytesLess a.Key b.Key=true
  · rw [if_pos h1]
    have:=Ord.asymm (a:=a.Key) (b:=b.Key) h1
    simp only [Ord.lt,Bool.not_eq_true] at this
    simp [this]
  · rw [if_neg h1]
    by_cases h2:Op.bytesLess b.Key a.Key=true
    · rw [if_pos h2];simp [h2]
    · rw [if_neg h2];simp at h2;simp [h2]
theorem keyC_gt {a b:SRow} : keyC a b > 0↔Op.bytesLess b.Key a.Key=true:=by
  have:=keyC_lt (a:=a) (b:=b)
  cases h:Op.bytesLess b.Key a.Key
  · have:=this.2 h;simp;omega
  · rw [h] at this;simp at this;simp;omega
theorem less_irr {a b:Bytes} (h1:Op.bytesLess a b=false) (h2:Op.bytesLess b a=false):a=b:=by
  rcases Ord.tri a b with h | h | h
  · unfold Ord.lt at h;rw [h1] at h;cases h
  · exact h
  · unfold Ord.lt at h;rw [h2] at h;cases h
theorem gt_of {a b:Bytes} (h1:Op.bytesLess a b=false) (h2:¬ a=b):Op.bytesLess b a=true:=by
  cases h:Op.bytesLess b a with
  | true=>rfl
  | false=>exact absurd (less_irr h1 h) h2
theorem ge_no {a b:Bytes} (h:Op.bytesLess a b=true∨a=b):¬ Op.bytesLess b a=true:=by
  rcases h with h | rfl
  · exact Ord.asymm (a:=a) (b:=b) h
  · rw [Ord.less_self];decide
theorem keyC_ok:Srt.Cmp keyC:=by
  refine ⟨fun a b=>?_,fun a b d h1 h2=>?_⟩
  · unfold keyC
    by_cases h1:Op.bytesLess a.Key b.Key=true
    · have:=Ord.asymm (a:=a.Key) (b:=b.Key) h1
      simp only [Ord.lt] at this
      rw [if_neg this,if_pos h1,if_pos h1];rfl
    · rw [if_neg h1]
      by_cases h2:Op.bytesLess b.Key a.Key=true
      · rw [if_pos h2,if_neg h1,if_pos h2]
      · rw [if_neg h2,if_neg h1,if_neg h2];rfl
  · rw [keyC_lt] at *
    cases h:Op.bytesLess d.Key a.Key with
    | false=>rfl
    | true =>
      exfalso
      rcases Ord.tri a.Key b.Key with h3 | h3 | h3
      · have:=Ord.trans (a:=d.Key) (b:=a.Key) (c:=b.Key) h h3
        simp only [Ord.lt] at this;rw [h2] at this;cases this
      · rw [h3,h2] at h;cases h
      · simp only [Ord.lt] at h3;rw [h1] at h3;cases h3
def Apart (x y:SRow):Prop:=¬ (x.Id=y.Id∧x.Key=y.Key)
def Dist (rows:List SRow):Prop:=rows.Pairwise Apart
theorem Dist.eq {rows:List SRow} (h:Dist rows) {a b:SRow} (ha:a∈rows) (hb:b∈rows) (h1:a.Id=b.Id) (h2:a.Key=b.Key):a=b:=by
  induction rows with
  | nil=>cases ha
  | cons x r ih =>
    have h':=List.pairwise_cons.1 h
    rcases List.mem_cons.1 ha with ha2 | ha2 <;> rcases List.mem_cons.1 hb with hb2 | hb2
    · rw [ha2,hb2]
    · subst ha2;exact absurd ⟨h1,h2⟩ (h'.1 _ hb2)
    · subst hb2;exact absurd ⟨h1.symm,h2.symm⟩ (h'.1 _ ha2)
    · exact ih h'.2 ha2 hb2
theorem Dist.nodup {rows:List SRow} (h:Dist rows):rows.Nodup:=List.Pairwise.imp (fun h e=>h ⟨congrArg SRow.Id e,congrArg SRow.Key e⟩) h
theorem Dist.nil:Dist []:=List.Pairwise.nil
def pK (id:Int) (k:Bytes) (x:SRow):Bool:=decide (x.Id=id)&&Op.bytesLess k x.Key
def above (rows:List SRow) (id:Int) (k:Bytes):List SRow:=Srt.srt keyC (rows.filter (pK id k))
theorem pK_true {id:Int} {k:Bytes} {x:SRow} : pK id k x=true↔x.Id=id∧Op.bytesLess k x.Key=true:=by unfold pK;simp
def NextJ (rows:List SRow) (id:Int) (key k r:Bytes) (e:Int):Prop:=
  (e=6 ∧ ∀ x∈rows,x.Id=id→Op.bytesLess key x.Key=false) ∨
  (e=0 ∧ ∃ x∈rows,x.Id=id∧Op.bytesLess key x.Key=true∧k=x.Key∧r=x.Record ∧ ∀ y∈rows,y.Id=id→Op.bytesLess key y.Key=true→Op.bytesLess y.Key x.Key=false)
theorem NextJ.e {rows:List SRow} {id:Int} {key k r:Bytes} {e:Int} (h:NextJ rows id key k r e):e=6∨e=0:=by rcases h with ⟨h,_⟩ | ⟨h,_⟩ <;> simp [h]
theorem above_nil {rows:List SRow} {id:Int} {key k r:Bytes} {e:Int} (h:NextJ rows id key k r e) (he:e=6):above rows id key=[]:=by
  rcases h with ⟨_,h⟩ | ⟨h,_⟩
  · unfold above
    rw [List.filter_eq_nil_iff.2 fun x hx=>by rw [pK_true];rintro ⟨h1,h2⟩;rw [h x hx h1] at h2;cases h2]
    rfl
  · omega
theorem above_mem {rows:List SRow} {id:Int} {k:Bytes} {x:SRow} : x∈above rows id k↔x∈rows∧x.Id=id∧Op.bytesLess k x.Key=true:=by
  unfold above;rw [Srt.srt_mem,List.mem_filter,pK_true]
theorem above_ordered (rows:List SRow) (id:Int) (k:Bytes):Srt.Ordered keyC (above rows id k):=Srt.srt_ordered keyC_ok _
theorem above_nodup {rows:List SRow} (hd:Dist rows) (id:Int) (k:Bytes):(above rows id k).Nodup:=(Srt.srt_perm _).nodup_iff.2 (hd.nodup.filter _)
theorem above_len (rows:List SRow) (id:Int) (k:Bytes):(above rows id k).length≤rows.length:=by unfold above;rw [Srt.srt_len];exact List.length_filter_le _ _
theorem above_cons {rows:List SRow} (hd:Dist rows) {id:Int} {key k r:Bytes} {e:Int} (h:NextJ rows id key k r e) (he:e≠6):∃ x,above rows id key=x::above rows id k∧x.Record=r:=by
  rcases h with ⟨h,_⟩ | ⟨_,x,hx,hi,hk,rfl,rfl,hm⟩
  · exact absurd h he
  refine ⟨x,?_,rfl⟩
  have hlt:∀ y∈above rows id x.Key,Op.bytesLess x.Key y.Key=true:=fun y hy=>(above_mem.1 hy).2.2
  refine List.Perm.eq_of_pairwise (le:=fun a b=>keyC a b≤0) (fun a b ha hb h1 h2=>?_) (above_ordered _ _ _) (List.pairwise_cons.2 ⟨fun y hy=>?_,above_ordered _ _ _⟩) ?_
  · have ha:=above_mem.1 ha
    have hb:b∈rows∧b.Id=id:=by
      rcases List.mem_cons.1 hb with rfl | hb
      · exact ⟨hx,hi⟩
      · exact ⟨(above_mem.1 hb).1,(above_mem.1 hb).2.1⟩
    rw [keyC_lt] at h1 h2
    exact hd.eq ha.1 hb.1 (ha.2.1.trans hb.2.symm) (less_irr h2 h1)
  · rw [keyC_lt]
    have:=Ord.asymm (a:=x.Key) (b:=y.Key) (hlt y hy)
    simpa [Ord.lt] using this
  · refine (List.perm_ext_iff_of_nodup (above_nodup hd _ _) (List.nodup_cons.2 ⟨fun h=>?_,above_nodup hd _ _⟩)).2 fun a=>?_
    · have:=hlt x h
      rw [Ord.less_self] at this;cases this
    · rw [List.mem_cons,above_mem,above_mem]
      constructor
      · rintro ⟨h1,h2,h3⟩
        rcases Ord.tri x.Key a.Key with h4 | h4 | h4
        · exact .inr ⟨h1,h2,h4⟩
        · exact .inl (hd.eq h1 hx (h2.trans hi.symm) h4.symm)
        · have:=hm a h1 h2 h3
          simp only [Ord.lt] at h4;rw [this] at h4;cases h4
      · rintro (rfl | ⟨h1,h2,h3⟩)
        · exact ⟨hx,hi,hk⟩
        · exact ⟨h1,h2,Ord.trans (a:=key) (b:=x.Key) (c:=a.Key) hk h3⟩
def AtJ (rows:List SRow) (id:Int) (key:Bytes) (i:Nat) (a:Int):Prop:=
  (a = -1 ∧ ∀ x∈rows.take i,x.Id=id→Op.bytesLess key x.Key=false) ∨
  (0≤a∧a.toNat<i∧(rows.getD a.toNat default).Id=id∧Op.bytesLess key (rows.getD a.toNat default).Key=true ∧ ∀ y∈rows.take i,y.Id=id→Op.bytesLess key y.Key=true→Op.bytesLess y.Key (rows.getD a.toNat default).Key=false)
variable {rows:List SRow} {id:Int} {key:Bytes} {i:Nat} {a:Int}
theorem AtJ.start:AtJ rows id key 0 (-1):=.inl ⟨rfl,fun x hx=>by simp at hx⟩
theorem AtJ.bd (h:AtJ rows id key i a) : -1≤a∧a<i:=by rcases h with ⟨h,_⟩ | ⟨h,h2,_⟩ <;> omega
theorem AtJ.skip (h:AtJ rows id key i a) (hi:i<rows.length) (hs:(rows.getD i default).Id=id→Op.bytesLess key (rows.getD i default).Key=true→0≤a∧Op.bytesLess (rows.getD i default).Key (rows.getD a.toNat default).Key=false):AtJ rows id key (i+1) a:=by
  rcases h with ⟨h,h2⟩ | ⟨h,h1,h2,h3,h4⟩
  · refine .inl ⟨h,fun x hx hid=>?_⟩
    rw [take_snoc (d:=default) hi,List.mem_append,List.mem_singleton] at hx
    rcases hx with hx | rfl
    · exact h2 x hx hid
    · cases hb:Op.bytesLess key (rows.getD i default).Key with
      | false=>rfl
      | true=>have:=(hs hid hb).1;omega
  · refine .inr ⟨h,by omega,h2,h3,fun y hy hid hk=>?_⟩
    rw [take_snoc (d:=default) hi,List.mem_append,List.mem_singleton] at hy
    rcases hy with hy | rfl
    · exact h4 y hy hid hk
    · exact (hs hid hk).2
theorem AtJ.hit (h:AtJ rows id key i a) (hi:i<rows.length) (hid:(rows.getD i default).Id=id) (hk:Op.bytesLess key (rows.getD i default).Key=true) (hb:a<0∨Op.bytesLess (rows.getD i default).Key (rows.getD a.toNat default).Key=true):AtJ rows id key (i+1) (i:Int):=by
  refine .inr ⟨by omega,by omega,?_,?_,fun y hy hy1 hy2=>?_⟩
  · rw [Int.toNat_natCast];exact hid
  · rw [Int.toNat_natCast];exact hk
  · rw [Int.toNat_natCast]
    rw [take_snoc (d:=default) hi,List.mem_append,List.mem_singleton] at hy
    rcases hy with hy | rfl
    · rcases h with ⟨h,h2⟩ | ⟨h,h1,h2,h3,h4⟩
      · rw [h2 y hy hy1] at hy2;cases hy2
      · rcases hb with hb | hb
        · omega
        · cases hc:Op.bytesLess y.Key (rows.getD i default).Key with
          | false=>rfl
          | true =>
            have:=h4 y hy hy1 hy2
            rw [show Op.bytesLess y.Key (rows.getD a.toNat default).Key=true from Ord.trans (a:=y.Key) (b:=(rows.getD i default).Key) (c:=(rows.getD a.toNat default).Key) hc hb] at this
            cases this
    · exact Ord.less_self _
theorem AtJ.none (h:AtJ rows id key i a) (hi:rows.length≤i) (ha:a<0) (k r:Bytes):NextJ rows id key k r 6:=by
  rcases h with ⟨h,h2⟩ | ⟨h,_⟩
  · exact .inl ⟨rfl,fun x hx=>h2 x (by rw [List.take_of_length_le hi];exact hx)⟩
  · omega
theorem AtJ.some (h:AtJ rows id key i a) (hi:rows.length≤i) (hj:i≤rows.length) (ha:¬ a<0):NextJ rows id key (rows.getD a.toNat default).Key (rows.getD a.toNat default).Record 0:=by
  rcases h with ⟨h,h2⟩ | ⟨h,h1,h2,h3,h4⟩
  · omega
  · exact .inr ⟨rfl,_,getD_mem (by omega),h2,h3,rfl,rfl,fun y hy=>h4 y (by rw [List.take_of_length_le hi];exact hy)⟩
def recs (rows:List SRow) (id:Int):List Bytes:=(above rows id []).map SRow.Record
def RecJ (rows:List SRow) (id:Int) (k:Bytes) (out:List Bytes):Prop:=out++(above rows id k).map SRow.Record=recs rows id
theorem RecJ.start:RecJ rows id [] []:=rfl
theorem RecJ.step {k k2 r:Bytes} {e:Int} {out:List Bytes} (h:RecJ rows id k out) (hd:Dist rows) (hn:NextJ rows id k k2 r e) (he:e≠6):RecJ rows id k2 (out++[r]):=by
  obtain ⟨x,h1,rfl⟩:=above_cons hd hn he
  unfold RecJ at *
  rw [← h,h1];simp
theorem RecJ.less {k k2 r:Bytes} {e:Int} (hd:Dist rows) (hn:NextJ rows id k k2 r e) (he:e≠6):(above rows id k2).length<(above rows id k).length:=by
  obtain ⟨x,h1,_⟩:=above_cons hd hn he
  rw [h1];simp
theorem RecJ.len {k:Bytes} {out:List Bytes} (h:RecJ rows id k out):out.length+(above rows id k).length≤rows.length:=by
  have h1:=congrArg List.length h
  unfold recs at h1
  rw [List.length_append,List.length_map,List.length_map] at h1
  have:=above_len rows id []
  omega
theorem RecJ.done {k k2 r:Bytes} {e:Int} {out:List Bytes} (h:RecJ rows id k out) (hn:NextJ rows id k k2 r e) (he:e=6):out=recs rows id:=by
  unfold RecJ at h
  rw [above_nil hn he] at h
  simpa using h
def recV (rows:List SRow) (b:Binding):List Bytes:=if b.Inline=true then b.Lines else if (b.Dummy||b.Create)=true then [] else recs rows b.EData.Id
theorem recV_in {b:Binding} (h:b.Inline=true):b.Lines=recV rows b:=by unfold recV;rw [if_pos h]
theorem recV_no {b:Binding} (h:b.Inline=false) (h2:(b.Dummy||b.Create)=true):[]=recV rows b:=by unfold recV;rw [if_neg (by rw [h];decide),if_pos h2]
theorem recV_rows {b:Binding} {out:List Bytes} (h:b.Inline=false) (h2:(b.Dummy||b.Create)=false) (h3:out=recs rows b.EData.Id):out=recV rows b:=by unfold recV;rw [if_neg (by rw [h];decide),if_neg (by rw [h2];decide)];exact h3
theorem less_nil (k:Bytes):Op.bytesLess [] k = !decide (k=[]):=by cases k <;> simp [Op.bytesLess]
def RowsJ (rows:List SRow) (id:Int) (i:Nat) (out:List SRow):Prop:=out=Srt.srt keyC ((rows.take i).filter (pK id []))
theorem RowsJ.start:RowsJ rows id 0 []:=rfl
theorem RowsJ.skip {out:List SRow} (h:RowsJ rows id i out) (hi:i<rows.length) (hs:(rows.getD i default).Id≠id∨(rows.getD i default).Key=[]):RowsJ rows id (i+1) out:=by
  unfold RowsJ at *
  rw [h,take_snoc (d:=default) hi,List.filter_append]
  have:pK id [] (rows.getD i default)=false:=by
    cases hp:pK id [] (rows.getD i default) with
    | false=>rfl
    | true =>
      rw [pK_true,less_nil] at hp
      rcases hs with hs | hs
      · exact absurd hp.1 hs
      · rw [hs] at hp;simp at hp
  rw [show [rows.getD i default].filter (pK id [])=[] by simp only [List.filter,this],List.append_nil]
theorem RowsJ.len {out:List SRow} (h:RowsJ rows id i out):out.length≤i:=by
  rw [h,Srt.srt_len]
  exact Nat.le_trans (List.length_filter_le _ _) (List.length_take_le _ _)
theorem ins_at {c:SRow→SRow→Int} (hc:Srt.Cmp c):∀ {L:List SRow} {x:SRow} {j:Nat},Srt.Ordered c L→j≤L.length→(∀ i,j≤i→i<L.length→c (L.getD i default) x > 0)→(0<j→¬ c (L.getD (j-1) default) x > 0)→Srt.ins c L x=L.take j++x::L.drop j
  | [],x,j,_,hj,_,_=>by
    have:j=0:=by simpa using hj
    subst this;rfl
  | y::r,x,0,_,_,h1,_=>by
    have:=h1 0 (Nat.le_refl _) (by simp)
    rw [Srt.ins,if_neg (by simp at this;omega)];rfl
  | y::r,x,j+1,ho,hj,h1,h2=>by
    have ho':=List.pairwise_cons.1 ho
    have hx:c y x≤0:=by
      have h2:=h2 (by omega)
      rw [Nat.add_sub_cancel] at h2
      cases j with
      | zero=>simp at h2;omega
      | succ j =>
        have hj':j<r.length:=by simp at hj;omega
        have h3:=ho'.1 _ (getD_mem (d:=default) hj')
        rw [List.getD_cons_succ] at h2
        exact hc.trans _ _ _ h3 (by omega)
    rw [Srt.ins,if_pos hx,ins_at hc ho'.2 (by simp at hj;omega) (fun i h3 h4=>by have:=h1 (i+1) (by omega) (by simp;omega);rwa [List.getD_cons_succ] at this) (fun h3=>by
      have:=h2 (by omega)
      rw [Nat.add_sub_cancel] at this
      rwa [show j=(j-1)+1 by omega,List.getD_cons_succ] at this)]
    rfl
theorem RowsJ.put {out:List SRow} {j:Nat} (h:RowsJ rows id i out) (hi:i<rows.length) (hid:(rows.getD i default).Id=id) (hk:(rows.getD i default).Key≠[]) (hj:j≤out.length) (h1:∀ k,j≤k→k<out.length→Op.bytesLess (rows.getD i default).Key (out.getD k default).Key=true) (h2:0<j→Op.bytesLess (rows.getD i default).Key (out.getD (j-1) default).Key=false) :
    RowsJ rows id (i+1) (((([]:List SRow)++((out.drop 0).take (j-0)))++[rows.getD i default])++((out.drop j).take (out.length-j))):=by
  unfold RowsJ at *
  have hp:pK id [] (rows.getD i default)=true:=by rw [pK_true,less_nil];exact ⟨hid,by simpa using hk⟩
  rw [take_snoc (d:=default) hi,List.filter_append]
  have hf:[rows.getD i default].filter (pK id [])=[rows.getD i default]:=by simp only [List.filter,hp]
  rw [hf,Srt.srt_snoc,← h,ins_at keyC_ok (by rw [h];exact Srt.srt_ordered keyC_ok _) hj (fun k h3 h4=>keyC_gt.2 (h1 k h3 h4)) (fun h3=>by rw [keyC_gt,h2 h3];decide)]
  rw [List.take_of_length_le (l:=out.drop j) (by rw [List.length_drop];omega)]
  simp
theorem RowsJ.done {out:List SRow} (h:RowsJ rows id i out) (hi:rows.length≤i):out=above rows id []:=by
  unfold RowsJ at h;rw [h,List.take_of_length_le hi];rfl
def DistJ (rows:List SRow) (i:Nat) (out:List SRow):Prop:=out.length≤i∧(∀ x∈out,x∈rows.take i)∧Dist out
def NewJ (rows:List SRow) (i k:Nat) (again:Bool):Prop:=again=false → ∀ j,j<k→Apart (rows.getD j default) (rows.getD i default)
theorem DistJ.start:DistJ rows 0 []:=⟨Nat.le_refl _,(fun _ hx=>nomatch hx),Dist.nil⟩
theorem DistJ.skip {out:List SRow} (h:DistJ rows i out) (hi:i<rows.length):DistJ rows (i+1) out:=⟨by have:=h.1;omega,fun x hx=>by rw [take_snoc (d:=default) hi];exact List.mem_append_left _ (h.2.1 x hx),h.2.2⟩
theorem DistJ.add {out:List SRow} (h:DistJ rows i out) (hi:i<rows.length) {k:Nat} {again:Bool} (hn:NewJ rows i k again) (ha:again=false) (hk:i≤k):DistJ rows (i+1) (out++[rows.getD i default]):=by
  refine ⟨by have:=h.1;rw [List.length_append,List.length_singleton];omega,fun x hx=>?_,?_⟩
  · rw [take_snoc (d:=default) hi]
    rcases List.mem_append.1 hx with hx | hx
    · exact List.mem_append_left _ (h.2.1 x hx)
    · exact List.mem_append_right _ hx
  · refine List.pairwise_append.2 ⟨h.2.2,List.pairwise_singleton _ _,fun a ha' b hb=>?_⟩
    rw [List.mem_singleton] at hb;subst hb
    obtain ⟨j,hj,rfl⟩:=List.getElem_of_mem (h.2.1 a ha')
    rw [List.length_take] at hj
    have:=hn ha j (by omega)
    rwa [List.getD_eq_getElem?_getD,List.getElem?_eq_getElem (show j<rows.length by omega),Option.getD_some,← List.getElem_take (h:=by rw [List.length_take];omega)] at this
theorem NewJ.start {again:Bool} : NewJ rows i 0 again:=fun _ j hj=>by omega
theorem NewJ.same {k:Nat} {again2:Bool} (ha:again2=true):NewJ rows i k again2:=fun h=>by rw [ha] at h;cases h
theorem NewJ.go {k:Nat} {again again2:Bool} (h:NewJ rows i k again) (h1:again=false) (h2:again2=false→¬ ((rows.getD k default).Id=(rows.getD i default).Id∧(rows.getD k default).Key=(rows.getD i default).Key)):NewJ rows i (k+1) again2:=fun ha j hj=>by
  by_cases hjk:j=k
  · subst hjk;exact h2 ha
  · exact h h1 j (by omega)
theorem DistJ.mem {out:List SRow} (h:DistJ rows i out) {x:SRow} (hx:x∈out):x∈rows:=List.mem_of_mem_take (h.2.1 x hx)
end R45
end Go.Proofs.YtggobegaiijhhaaGreatDoor
namespace Go.GV
open Go.RowKit
def methIsP (P:Program) (t:TypeId) (name:String):Option FuncId:=match P.info? t with
  | some i=>match i.methods.find? (·.name == name) with
    | some m=>if m.path.toList.isEmpty then (match m.func,P.underlying t with
      | some (f,true),some (.pointer _)=>some f
      | _,_=>none) else none
    | none=>none
  | none=>none
section
variable {E:Env} {P:Program} {w:World} {x:Operand} {dst:Option Nat} {t ty:TypeId} {pos:String} {af:Array Edge} {g:Option (Nat × Bool)}
theorem run_methodP {name:String} {f:FuncId} {v:Value} {n:Nat} (hm:methIsP P t name=some f):(method (n+1) t v name).run P w = .ok (f,v) w:=by
  unfold methIsP at hm
  cases hi:P.info? t with
  | none=>rw [hi] at hm;cases hm
  | some i =>
    rw [hi] at hm
    have hm:(match i.methods.find? (·.name == name) with
      | some m=>if m.path.toList.isEmpty then (match m.func,P.underlying t with
        | some (f,true),some (.pointer _)=>some f
        | _,_=>none) else none
      | none=>none)=some f:=hm
    cases hfi:i.methods.find? (·.name == name) with
    | none=>rw [hfi] at hm;cases hm
    | some m =>
      rw [hfi] at hm
      have hm:(if m.path.toList.isEmpty then (match m.func,P.underlying t with
        | some (f,true),some (.pointer _)=>some f
        | _,_=>none) else none)=some f:=hm
      split at hm
      · rename_i hp
        have hp2:m.path.toList=[]:=by simpa using hp
        split at hm
        · rename_i f' fs hf hu
          cases hm
          unfold method
          simp only [Sem.run_bind,run_typeInfo w hi,Result.andThen_ok,hfi,hp2,follow,Sem.run_pure,hf]
          unfold receiverAt
          simp only [Sem.run_bind,run_underlying hu,Result.andThen_ok,Place.get,Sem.run_pure]
        · cases hm
      · cases hm
theorem x_invokeP {f:FuncId} {v:Value} {name:String} {l:List Operand} {vs:List Value} {ts:Array TypeId} (hx:ev E x = .iface t v) (hm:methIsP P t name=some f) (hc:Callable P f) (hd:0<P.types.size+Made.depth) (ha:v::l.map (ev E)=vs) :
    (execOp (ev E) ⟨dst,.call ⟨.invoke x name,l.toArray,ts⟩,ty,pos,af,g⟩).run P w = .ok (.enter f vs.toArray) w:=by
  subst ha
  obtain ⟨n,hn⟩:∃ n,P.types.size+Made.depth=n+1:=⟨P.types.size+Made.depth-1,by omega⟩
  have h:=run_callFunc_enter (P:=P) (w:=w) (args:=(v::l.map (ev E)).toArray) hc
  have hp:(program).run P w = .ok P w:=rfl
  simp only [execOp,resolve,List.map_toArray,hx,Sem.run_bind,Sem.run_pure,Result.andThen_ok,invoke]
  have ht:List.take l.length (List.map (ev E) l)=List.map (ev E) l:=List.take_of_length_le (by rw [List.length_map];exact Nat.le_refl _)
  simp [callMethod,Sem.run_bind,hp,hn,run_methodP (n:=n) (v:=v) (w:=w) hm,ht]
  simpa using h
end
end Go.GV
namespace Go.Proofs.YtggobegaiijhhaaGreatDoor
open Go.GV
namespace Ty
theorem mtd:0<Tryz.prog.types.size+Made.depth:=of_decide_eq_true (by kernel_rfl)
theorem mt239:methIsP Tryz.prog 41 "Next" = some 239:=by kernel_rfl
theorem mt238:methIsP Tryz.prog 41 "Get" = some 238:=by kernel_rfl
end Ty
end Go.Proofs.YtggobegaiijhhaaGreatDoor
namespace Go.GV
open Go.RowKit
section
variable {P:Program} {n:Dim} {S:List Nat} {w0:World} {Q:Post} {E:Env} {L:List Ent} {ops:Array Oper} {o:Oper} {Lg Lu:List Ent} {us:List Nat} {fuel:Nat} {listed:Array Bool}
theorem wpAnyG_monoG {ro:Option Nat} {G1 G2:Array Bool→World→Prop} (hG:∀ l w,G1 l w→G2 l w):∀ (fuel:Nat) (listed:Array Bool) (a:Act) (w:World),wpAnyG ro P ops Q G1 fuel listed a w→wpAnyG ro P ops Q G2 fuel listed a w
  | 0,_,_,_,h=>⟨hG _ _ h.1,h.2.1,h.2.2⟩
  | fuel+1,listed,a,w,h=>⟨hG _ _ h.1,h.2.1,fun i hi=>wpOpIn_mono (fun a w h=>wpAnyG_monoG hG fuel _ a w h) (h.2.2 i hi)⟩
theorem JI_callB {i:Nat} (Sc:List Nat) (Lc Lr:List Ent) {f:FuncId} {args:Array Value} {φ:World→Value→List Ent→World→Prop} (hi:ops[i]? = some o) (hfit:fit n E o=true) (hw:wants ops E o)
    (hr:∀ w,(execOp (ev E) o).run P w = .ok (.enter f args) w) (hL:∀ w,St S w0 w L→St S w0 w (Lc++Lr)) (hS:∀ b∈Sc,∃ e∈Lc,e.own=some b)
    (hc:∀ w,St S w0 w (Lc++Lr)→Calls P f args w (GivesW Sc w (φ w)))
    (h:∀ w v L' w',φ w v L' w'→St S w0 w (Lc++Lr)→St S w0 w' (L'++Lr)→JA P n (Lown (L'++Lr)) w' ops Q Lg us Lu fuel (listed.setIfInBounds i true) (put E o.dst v) (L'++Lr)):JI P n S w0 ops Q Lg us Lu fuel listed E L i:=by
  intro a w hR hSt hcl
  unfold wpOpIn
  rw [hi]
  simp only [wants_wanted hR hw,if_true]
  refine ⟨fun _ _=>trivial,?_⟩
  rw [fit_sem hfit hR,hr w]
  refine ⟨fun h=>(by cases h),(callsIn_wd (m:=0-1)).2 ((hc w (hL w hSt)).mono ?_)⟩
  rintro e w' ⟨v,L',rfl,hφ,hS'⟩
  have hs:=(hL w hSt).after hS hS'
  exact wpAnyG_monoG (fun l w2 hG=>⟨hs.back _ _ hG.1,fun hu=>hs.back _ _ (hG.2 hu)⟩) _ _ _ _ (h w v L' w' hφ (hL w hSt) hs _ _ (hR.put (fit_dst hfit) v) hs.base hcl)
end
end Go.GV
namespace Go.GV
open Go.RowKit Go.MapKept
section
variable {E:Env} {P:Program} {x:Operand} {dst:Option Nat} {t ty:TypeId} {pos:String} {af:Array Edge} {g:Option (Nat × Bool)} {κ:Type}
end
section
variable {E:Env} {P:Program} {x y:Operand} {dst:Option Nat} {t t' ty:TypeId} {pos:String} {af:Array Edge} {g:Option (Nat × Bool)} {κ:Type} {w:World}
end
end Go.GV
namespace Go.GV
open Go.RowKit
theorem kf_ {p:Prop} (h:p:=by kernel_rfl):p:=h
theorem om_ {p:Prop} (h:p:=by omega):p:=h
theorem as_ {p:Prop} (h:p:=by assumption):p:=h
theorem dd_ {p:Prop} (h:p:=by decide):p:=h
theorem df_ {p:Prop} (h:p:=by first | rfl | omega | (simp_all;done) | (simp_all;omega)):p:=h
theorem se_ {p:Prop} (h:p:=by repeat' first | exact trivial | exact rfl | refine ⟨?_,?_⟩):p:=h
theorem w_ {p:Prop} (h:p:=by exact ⟨_,rfl,rfl⟩):p:=h
theorem i_ {α:Type} {p:α→Prop} : ∀ x,p x→p x:=fun _ h=>h
theorem ot_ {p:Prop} [Decidable p] (h:decide p=true):p:=of_decide_eq_true h
theorem of_ {p:Prop} [Decidable p] (h:decide p=false):¬ p:=of_decide_eq_false h
abbrev OA_:=Option Addr
abbrev LB_:=List Bytes
abbrev fN_ (n:Nat):Value:=Value.func (.func n) #[] #[]
abbrev fC_ (n b:Nat):Value:=Value.func (.func n) #[] #[pB b 0]
abbrev T_:Bool:=true
abbrev F_:Bool:=false
abbrev xE_ (x s:Nat) (parm:Bytes) (m:Nat) (l:List Value):Ent:=Ent.blk x 82 (Value.iface 41 (pB s 0)::vS parm::Value.map (some m)::l)
abbrev x0_ (x s:Nat) (parm:Bytes) (m:Nat):Ent:=Ent.blk x 82 [Value.iface 41 (pB s 0),vS parm,Value.map (some m),vI 0,vB false,vL none 0 0,vL none 0 0]
abbrev sH_ (s:Nat) (A:Option Addr) (n c k:Nat):Ent:=Ent.blk s 52 [vL A n c,vI 0,vI 0,vI ((k:Nat):Int)]
abbrev l1_ (a b:Bytes):List Bytes:=([]:List Bytes)++[((a++b):Bytes)]
abbrev g0_ {α:Type} [Inhabited α] (l:List α):α:=l.getD 0 default
section
variable {P:Program} {n:Dim} {S:List Nat} {w0:World} {Q:Post} {ops:Array Oper} {us:List Nat} {Lg Lu L:List Ent} {fuel:Nat} {listed:Array Bool} {E:Env}
theorem je_ (i:Nat) {o:Oper} (v:Value) (hi:ops[i]? = some o) (hv:∀ w,St S w0 w Lu→(execOp (ev E) o).run P w = .ok (.value v) w) (h:JA P n S w0 ops Q Lg us Lu fuel (listed.setIfInBounds i true) (put E o.dst v) L)
    (hs:Region.noSelect ops=true:=by kernel_rfl) (hf:Region.free .any ops listed i=true:=by kernel_rfl) (hr:(Region.ready .any ops listed).contains i=true:=by kernel_rfl) (hu:us.contains i=false:=by rfl)
    (hlate:(us.all fun u=>match ops[u]? with | some x=>x.after.any (fun e=>Region.binds .any e&&e.on == i) | none=>false)=true:=by kernel_rfl)
    (hQ:∀ c a w,Q (.panic c) (a.put o.dst v) w→Q (.panic c) a w:=by exact fun _ _ _ h=>h) (hfit:fit n E o=true:=by rfl) (hw:wants ops E o:=by exact trivial):JA P n S w0 ops Q Lg us Lu (fuel+1) listed E L:=JA_early i v hi hs hf hr hu hlate hQ hfit hw hv h
theorem jE_ (i:Nat) {o:Oper} (v:Value) (hi:ops[i]? = some o) (hv:∀ w,St S w0 w Lu→(execOp (ev E) o).run P w = .ok (.value v) w) (h:JA P n S w0 ops Q Lg us Lu fuel (listed.setIfInBounds i true) (put E o.dst v) L)
    (hs:Region.noSelect ops=true:=by kernel_rfl) (hf:Region.free .any ops listed i=true:=by kernel_rfl) (hr:(Region.ready .any ops listed).contains i=true:=by kernel_rfl) (hu:us.contains i=false:=by rfl)
    (hlate:(us.all fun u=>lateB ops 64 u i)=true:=by kernel_rfl)
    (hQ:∀ c a w,Q (.panic c) (a.put o.dst v) w→Q (.panic c) a w:=by exact fun _ _ _ h=>h) (hfit:fit n E o=true:=by rfl) (hw:wants ops E o:=by exact trivial):JA P n S w0 ops Q Lg us Lu (fuel+1) listed E L:=JA_earlyT i v hi hs hf hr hu hlate hQ hfit hw hv h
end
end Go.GV
