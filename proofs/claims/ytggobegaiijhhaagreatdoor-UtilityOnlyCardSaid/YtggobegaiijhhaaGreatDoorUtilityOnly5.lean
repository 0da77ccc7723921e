/- GvK, GvU, GvV in one text. -/
import Derived.Test.YtggobegaiijhhaaGreatDoorUtilityOnly4
set_option linter.unusedVariables false
set_option linter.unusedSimpArgs false
namespace Go.GV
open Go.RowKit
theorem RO.again {S:List Nat} {w0 w:World} {A:Option Addr} {cs:List Value} {L:List Ent} (h:RO S w0 A cs) (hS:St S w0 w L):RO (Lown L) w A cs:=
  h.on (Lc:=L) (Lr:=[]) (by rw [List.append_nil];exact hS) lown_mem
theorem RO.mono {S S':List Nat} {w:World} {A:Option Addr} {cs:List Value} (h:RO S w A cs) (hs:∀ b∈S',b∈S):RO S' w A cs:=fun j v hv=>by
  obtain ⟨a,e,hb,hn,hc⟩:=h j v hv
  exact ⟨a,e,hb,fun hh=>hn (hs _ hh),hc⟩
theorem RO.no {S:List Nat} {w:World} {A:Option Addr} {cs:List Value} (h:RO S w A cs):RO [] w A cs:=h.mono (fun _ hb=>by cases hb)
theorem RO.fromF {S F:List Nat} {w:World} {A:Option Addr} {cs:List Value} (h:RO (S++F) w A cs):RO S w A cs:=h.mono fun _ hb=>List.mem_append.2 (.inl hb)
theorem RO.freshF {S F:List Nat} {w:World} {A:Option Addr} {cs:List Value} (h:RO (S++F) w A cs):RO F w A cs:=h.mono fun _ hb=>List.mem_append.2 (.inr hb)
theorem RO.againF {S F:List Nat} {w0 w:World} {A:Option Addr} {cs:List Value} {L:List Ent} (h:RO (S++F) w0 A cs) (hS:St S w0 w L):RO (Lown L++F) w A cs:=fun j v hv=>by
  obtain ⟨a,e,hb,hn,hc⟩:=h.fromF.again hS j v hv
  refine ⟨a,e,hb,fun hh=>?_,hc⟩
  rcases List.mem_append.1 hh with hh | hh
  · exact hn hh
  · obtain ⟨a2,e2,_,hn2,_⟩:=h.freshF j v hv
    rw [e] at e2;injection e2 with e2;subst e2
    exact hn2 hh
theorem RO.of_rowF {S:List Nat} {w00 w0 w:World} {Lc Lr:List Ent} (hS:St S w0 w (Lc++Lr)) (h0:St [] w00 w (Lc++Lr)) (j:Nat) {e:TypeId} {sz n c:Nat} {A:Option Addr} {cs:List Value} (hj:Lr[j]? = some (Ent.row (.slice A n c) e sz n cs)):RO (Lown Lc++List.range w00.heap.size) w A cs:=fun jj v hv=>by
  obtain ⟨a,ha,hb,hn,hc⟩:=RO.of_rowS (Sc:=Lown Lc) hS lown_mem j hj jj v hv
  refine ⟨a,ha,hb,fun hh=>?_,hc⟩
  rcases List.mem_append.1 hh with hh | hh
  · exact hn hh
  · subst ha
    rcases h0.own _ (List.mem_append.2 (.inr (List.mem_of_getElem? hj))) a.block rfl with h1 | h1
    · cases h1
    · exact absurd (List.mem_range.1 hh) (by omega)
theorem lown_range {S:List Nat} {w0 w:World} {L:List Ent} (hS:St S w0 w L):∀ b∈Lown L,b∈List.range w.heap.size:=fun b hb=>by
  obtain ⟨e,he,ho⟩:=lown_mem b hb
  exact List.mem_range.2 ((hS.hold e he).2 b ho)
theorem St.back {S:List Nat} {w0 wb:World} {L0:List Ent} (h:St S w0 wb L0) (w:World) (L:List Ent) (h':St (Lown L0) wb w L):St S w0 w L:=by
  have:=St.after (Lc:=L0) (Lr:=[]) (by rw [List.append_nil];exact h) lown_mem h'
  rwa [List.append_nil] at this
theorem St.base {S:List Nat} {w0 w:World} {L:List Ent} (h:St S w0 w L):St (Lown L) w w L:=
  ⟨Fr.refl _ _,h.hold,h.dis,fun e he b hb=>.inl (lown_in e he b hb)⟩
def GivesW (S:List Nat) (w:World) (φ:Value→List Ent→World→Prop):Ending→World→Prop:=
  fun e w'=>∃ v L',e = .returned v∧φ v L' w'∧St S w w' L'
section
variable {P:Program} {n:Dim} {S:List Nat} {w0:World} {Q:Post} {E:Env} {L:List Ent}
theorem calls_JW {f:FuncId} {fn:Func} {c:Code} {args:Array Value} {w:World} {φ:Value→List Ent→World→Prop} {L0:List Ent} (S:List Nat) (n:Nat)
    (hf:P.funcs[f]? = some fn) (hb:fn.body=some c) (hm:fn.ntmps=n) (E:Env) (hE:E=envOf 0 args.toList) (hn:Nat.ble args.size n=true)
    (hg:Give S w L0) (h:J P { sz:=n } S w c (bodyPost P fn (GivesW S w φ)) E L0):Calls P f args w (GivesW S w φ):=by
  subst hm
  have hn:=Nat.le_of_ble_eq_true hn
  refine (callsIn_wide (n:=0)).1 (callsIn_of_wp (F:=Fence.wide) hf hb trivial (h _ w ⟨rfl,?_,?_⟩ hg.start) rfl)
  · simp;omega
  · intro t v hv
    rw [hE] at hv
    have h1:args[t]? = some v:=by have:=(get_envOf _ _ _ _ hv).2;simpa using this
    obtain ⟨hlt,h2⟩:=Array.getElem?_eq_some_iff.1 h1
    simp only [Array.getD_eq_getD_getElem?]
    rw [Array.getElem?_append_left hlt,h1]
    rfl
theorem JX_retsB {fn:Func} {rs:List ResultVar} {S1:List Nat} {w1:World} {φ:Value→List Ent→World→Prop} (vs:List Value) (v:Value) (hr:fn.results=rs.toArray) (hv:∀ w,St S w0 w L→resAll P E w rs vs)
    (hvv:v=(if h:vs.length=1 then vs[0] else .tuple vs.toArray)) (L':List Ent) (hL:∀ w,St S w0 w L→St S w0 w L') (hB:∀ w L,St S w0 w L→St S1 w1 w L) (hφ:∀ w,St S w0 w L'→φ v L' w) (hd:n.ds=[]:=by rfl) :
    JX n S w0 (bodyPost P fn (GivesW S1 w1 φ)) .ret E L:=by
  intro a w hR hS
  have h0:=JX_rets (P:=P) (n:=n) (S:=S) (w0:=w0) (E:=E) (L:=L) (φ:=fun u L2=>u=v∧L2=L') vs v hr hv hvv L' hL ⟨rfl,rfl⟩ hd a w hR hS
  obtain ⟨hd,u,hu,u2,L2,he,hp,hs⟩:=h0
  obtain ⟨rfl,rfl⟩:=hp
  exact ⟨hd,u,hu,u2,L2,he,hφ w hs,hB w _ hs⟩
theorem JX_retsC {fn:Func} {rs:List ResultVar} {S1:List Nat} {w1:World} {φ:Value→List Ent→Prop} (vs:List Value) (v:Value) (hr:fn.results=rs.toArray) (hv:∀ w,St S w0 w L→resAll P E w rs vs)
    (hvv:v=(if h:vs.length=1 then vs[0] else .tuple vs.toArray)) (L':List Ent) (hL:∀ w,St S w0 w L→St S w0 w L') (hB:∀ w L,St S w0 w L→St S1 w1 w L) (hφ:φ v L') (hd:n.ds=[]:=by rfl) :
    JX n S w0 (bodyPost P fn (Gives S1 w1 φ)) .ret E L:=JX_retsB (φ:=fun v L _=>φ v L) vs v hr hv hvv L' hL hB (fun _ _=>hφ) hd
def RoundB {X:Type} (n:Dim) (S:List Nat) (w0:World) (I:X→Prop) (W:X→World→Prop) (Ef:X→Env) (Lf:X→List Ent) (μ:X→Nat) (m:Nat) (Q:Post):Post:=
  Exit.then (fun a w=>∃ x,I x∧W x w∧μ x<m∧Rep n (Ef x) a∧St S w0 w (Lf x)) Q
theorem JX_roundA {X:Type} {S1:List Nat} {w1:World} {I:X→Prop} {Ef:X→Env} {Lf:X→List Ent} {μ:X→Nat} {m:Nat} (x:X) (hI:I x) (hm:μ x<m) (hE:SubE E (Ef x)) (hB:∀ w L,St S w0 w L→St S1 w1 w L) (hL:∀ w,St S w0 w L→St S w0 w (Lf x)) :
    JX n S w0 (Round n S1 w1 I Ef Lf μ m Q) .normal E L:=fun _ w hR hS=>⟨x,hI,hm,hR.sub hE,hB w _ (hL w hS)⟩
section
variable {ops:Array Oper} {o:Oper} {Lg Lu:List Ent} {us:List Nat} {fuel:Nat} {listed:Array Bool}
theorem JA_shunU (i:Nat) (hi:ops[i]? = some o) (hs:Region.noSelect ops=true) (hf:Region.free .any ops listed i=true) (hr:(Region.ready .any ops listed).contains i=true) (hu:us.contains i=false)
    (hQ:∀ c a w,Q (.panic c) (a.put o.dst undef) w→Q (.panic c) a w) (hd:dstOk n o.dst=true) (hw:gundef ops E o)
    (h:JA P n S w0 ops Q Lg us Lu fuel (listed.setIfInBounds i true) (put E o.dst undef) L):JA P n S w0 ops Q Lg us Lu (fuel+1) listed E L:=by
  intro a w hR hS hcl
  have hr':i∈Region.ready .any ops listed:=by simpa using hr
  refine wpAnyG_first (H:=fun _=>True) hi (Region.noSelect_spec hs) hQ (fun _ _ _ _ _=>trivial) (fun l w _ hl h=>⟨h.1,fun hh=>h.2 (by rw [all_unset hu];exact hh)⟩) fuel listed a w hcl (Region.free_spec hi hf) hr' (.inr ⟨gundef_wanted hR hw,rfl⟩) (h _ w (hR.put (fun d hd'=>?_) undef) hS (hcl.add hr'))
  rw [hd'] at hd
  simpa [dstOk,Nat.blt_eq] using hd
end
section
variable {ops:Array Oper} {o:Oper} {rest:List Oper}
theorem JO_callB (Sc:List Nat) (Lc Lr:List Ent) {f:FuncId} {args:Array Value} {φ:World→Value→List Ent→World→Prop} (hfit:fit n E o=true) (hw:wants ops E o)
    (hr:∀ w,(execOp (ev E) o).run P w = .ok (.enter f args) w) (hL:∀ w,St S w0 w L→St S w0 w (Lc++Lr)) (hS:∀ b∈Sc,∃ e∈Lc,e.own=some b)
    (hc:∀ w,St S w0 w (Lc++Lr)→Calls P f args w (GivesW Sc w (φ w))) (h:∀ w v L' w',φ w v L' w'→St S w0 w (Lc++Lr)→St S w0 w' (L'++Lr)→JO P n (Lown (L'++Lr)) w' ops rest Q (put E o.dst v) (L'++Lr)):JO P n S w0 ops (o::rest) Q E L:=by
  intro a w hR hSt
  unfold wpListIn
  rw [if_pos (wants_wanted hR hw)]
  refine ⟨fun _ _=>trivial,?_⟩
  rw [fit_sem hfit hR,hr w]
  refine ⟨fun h=>(by cases h),(callsIn_wd (m:=0-1)).2 ((hc w (hL w hSt)).mono ?_)⟩
  rintro e w' ⟨v,L',rfl,hφ,hS'⟩
  have hs:=(hL w hSt).after hS hS'
  exact h w v L' w' hφ (hL w hSt) hs _ _ (hR.put (fit_dst hfit) v) hs.base
end
end
end Go.GV
namespace Go.GV
def evo (E:Env):Operand→Option Value
  | .tmp t=>get E t
  | .const v=>some v
  | .global g=>some (.pointer (some ⟨g,0,none⟩))
  | .func f=>some (.func (.func f) #[] #[])
theorem evo_ev {E:Env} {x:Operand} {v:Value} (h:evo E x=some v):ev E x=v:=by
  cases x with
  | tmp t=>simp only [evo] at h;simp only [ev,h,Option.getD_some]
  | const u=>injection h
  | global g=>injection h
  | func f=>injection h
inductive SetA {α:Type} : List α→Nat→α→List α→Prop
  | here {x v:α} {l:List α} : SetA (x::l) 0 v (v::l)
  | there {x v:α} {l l':List α} {k:Nat} (h:SetA l k v l'):SetA (x::l) (k+1) v (x::l')
theorem SetA.set {α:Type} {l l':List α} {k:Nat} {v:α} (h:SetA l k v l'):l.set k v=l':=by
  induction h with
  | here=>rfl
  | there _ ih=>simp [ih]
theorem SetA.lt {α:Type} {l l':List α} {k:Nat} {v:α} (h:SetA l k v l'):k<l.length:=by
  induction h with
  | here=>simp
  | there _ ih=>simpa using ih
theorem SetA.splice {l l':List Value} {k:Nat} {v:Value} (h:SetA l k v l'):splice l k [v]=l':=by
  induction h with
  | here=>rfl
  | there h ih=>simpa [GV.splice] using h.set
inductive Sub:Env→List Nat→Env→Prop
  | nil {E:Env} : Sub E [] []
  | cons {E E':Env} {ks:List Nat} {k:Nat} {v:Value} (h:get E k=some v) (t:Sub E ks E'):Sub E (k::ks) ((k,v)::E')
theorem Sub.sub {E E':Env} {ks:List Nat} (h:Sub E ks E'):SubE E E':=by
  induction h with
  | nil=>trivial
  | cons h _ ih=>exact ⟨h,ih⟩
def grown (E2 E:Env):Prop:=E2.drop (E2.length-E.length)=E∧(E2.take (E2.length-E.length)).all (fun p=>(get E p.1).isNone)=true
theorem get_app:∀ (l E:Env) (t:Nat) (v:Value),get E t=some v→l.all (fun p=>(get E p.1).isNone)=true→get (l++E) t=some v
  | [],_,_,_,h,_=>h
  | (k,u)::l,E,t,v,h,ha=>by
    simp only [List.all_cons,Bool.and_eq_true] at ha
    simp only [List.cons_append,get]
    cases hb:Nat.beq k t with
    | true=>have:=Nat.eq_of_beq_eq_true hb;subst this;rw [h] at ha;simp at ha
    | false=>simpa using get_app l E t v h ha.2
theorem Rep.grown {n:Dim} {E2 E:Env} {a:Act} (h:Rep n E2 a) (hg:grown E2 E):Rep n E a:=⟨h.defers,h.size,fun t v hv=>h.val t v (by
  have:=get_app (E2.take (E2.length-E.length)) E t v hv hg.2
  rw [← List.take_append_drop (E2.length-E.length) E2,hg.1];exact this)⟩
section
variable {n:Dim} {S:List Nat} {w0:World} {P:Program} {ops:Array Oper} {Q:Post} {E:Env} {L Lg Lu:List Ent} {us:List Nat} {fuel:Nat} {listed:Array Bool} {w:World}
variable {rest:List Oper} {v:Value} {d:Nat} {op:Op}
variable {x y:Operand} {dst:Option Nat} {t t' ty u:TypeId} {pos:String} {af:Array Edge} {g:Option (Nat × Bool)} {k:Nat}
theorem s_ (hr:∀ {w},(execOp (ev E) ⟨some d,op,ty,pos,af,g⟩).run P w = .ok (.value v) w) (h:JO P n S w0 ops rest Q ((d,v)::E) L) (hfit:fit n E ⟨some d,op,ty,pos,af,g⟩=true:=by rfl) (hw:wants ops E ⟨some d,op,ty,pos,af,g⟩:=by exact trivial):JO P n S w0 ops (⟨some d,op,ty,pos,af,g⟩::rest) Q E L:=JO_read v hfit hw (fun _ _=>hr) h
theorem r_ (hr:∀ w,St S w0 w L→(execOp (ev E) ⟨some d,op,ty,pos,af,g⟩).run P w = .ok (.value v) w) (h:JO P n S w0 ops rest Q ((d,v)::E) L) (hfit:fit n E ⟨some d,op,ty,pos,af,g⟩=true:=by rfl) (hw:wants ops E ⟨some d,op,ty,pos,af,g⟩:=by exact trivial):JO P n S w0 ops (⟨some d,op,ty,pos,af,g⟩::rest) Q E L:=JO_read v hfit hw hr h
theorem wants_g {o:Oper} {t b:Bool} {j:Nat} (hg:t=b) (h1:o.guard=some (j,b)) (h2:gval ops E j=some t):wants ops E o:=by unfold wants;rw [h1];exact ⟨t,h2,hg⟩
theorem sg_ {t b:Bool} {j:Nat} (hg:t=b) (hr:∀ {w},(execOp (ev E) ⟨some d,op,ty,pos,af,some (j,b)⟩).run P w = .ok (.value v) w) (h:JO P n S w0 ops rest Q ((d,v)::E) L) (hfit:fit n E ⟨some d,op,ty,pos,af,some (j,b)⟩=true:=by rfl) (h2:gval ops E j=some t:=by rfl):JO P n S w0 ops (⟨some d,op,ty,pos,af,some (j,b)⟩::rest) Q E L:=JO_read v hfit ⟨t,h2,hg⟩ (fun _ _=>hr) h
theorem rg_ {t b:Bool} {j:Nat} (hg:t=b) (hr:∀ w,St S w0 w L→(execOp (ev E) ⟨some d,op,ty,pos,af,some (j,b)⟩).run P w = .ok (.value v) w) (h:JO P n S w0 ops rest Q ((d,v)::E) L) (hfit:fit n E ⟨some d,op,ty,pos,af,some (j,b)⟩=true:=by rfl) (h2:gval ops E j=some t:=by rfl):JO P n S w0 ops (⟨some d,op,ty,pos,af,some (j,b)⟩::rest) Q E L:=JO_read v hfit ⟨t,h2,hg⟩ hr h
theorem o_ {o:Oper} (h:OpJ P S w0 E L o fun v L'=>JO P n S w0 ops rest Q (put E o.dst v) L') (hfit:fit n E o=true:=by rfl) (hw:wants ops E o:=by exact trivial):JO P n S w0 ops (o::rest) Q E L:=JO_op hfit hw h
theorem og_ {o:Oper} {t b:Bool} {j:Nat} (hg:t=b) (h:OpJ P S w0 E L o fun v L'=>JO P n S w0 ops rest Q (put E o.dst v) L') (hfit:fit n E o=true:=by rfl) (h1:o.guard=some (j,b):=by rfl) (h2:gval ops E j=some t:=by rfl):JO P n S w0 ops (o::rest) Q E L:=JO_op hfit (wants_g hg h1 h2) h
theorem mv_ (h:evo E x=some v:=by exact rfl):(execOp (ev E) ⟨dst,.move x,ty,pos,af,g⟩).run P w = .ok (.value v) w:=by
  simp only [execOp,evo_ev h];rfl
theorem av_ (h:evo E x=some v:=by exact rfl):(execOp (ev E) ⟨dst,.assign x,ty,pos,af,g⟩).run P w = .ok (.value v) w:=by
  simp only [execOp,evo_ev h];rfl
theorem fA {s:TypeId} {i o:Nat} {ft:TypeId} {b f:Nat} (m:Nat) (h:fieldIs P s i=some (o,ft)) (hx:ev E x = .pointer (some ⟨b,f,none⟩):=by exact rfl) (hm:Nat.beq (f+o) m=true:=by rfl) :
    (execOp (ev E) ⟨dst,.fieldAddr s x i,ty,pos,af,g⟩).run P w = .ok (.value (pB b m)) w:=x_fieldAddr h hx (by rw [add_lit,Nat.eq_of_beq_eq_true hm])
theorem fB {s:TypeId} {i o:Nat} {ft:TypeId} {A:Option Addr} {f:Nat} (h:fieldIs P s i=some (o,ft)) (hx:ev E x = .pointer (some (adr A f)):=by exact rfl) :
    (execOp (ev E) ⟨dst,.fieldAddr s x i,ty,pos,af,g⟩).run P w = .ok (.value (pA A (f+o))) w:=x_fieldAddr h hx (adr_add _ _ _)
theorem fB0 {s:TypeId} {i:Nat} {ft:TypeId} {A:Option Addr} {f:Nat} (h:fieldIs P s i=some (0,ft)) (hx:ev E x = .pointer (some (adr A f)):=by exact rfl) :
    (execOp (ev E) ⟨dst,.fieldAddr s x i,ty,pos,af,g⟩).run P w = .ok (.value (pA A f)) w:=x_fieldAddr h hx rfl
theorem ld_ (j:Nat) {b off:Nat} {tb:TypeId} {cs:List Value} {fz:Nat × Nat} (hs:scal P t=true) (hx:ev E x = .pointer (some ⟨b,off,none⟩):=by exact rfl) (hj:L[j]? = some (Ent.blk b tb cs fz):=by exact rfl) (hc:cs[off]? = some v:=by exact rfl) :
    ∀ w,St S w0 w L→(execOp (ev E) ⟨dst,.load t x,ty,pos,af,g⟩).run P w = .ok (.value v) w:=x_load j hx hj hs hc
theorem ldN (j:Nat) {b off:Nat} {tb:TypeId} {cs:List Value} {fz:Nat × Nat} (vs:List Value) (hs:aggs P t=true) (hn:sizeIs P t=some vs.length) (hx:ev E x = .pointer (some ⟨b,off,none⟩):=by exact rfl) (hj:L[j]? = some (Ent.blk b tb cs fz):=by exact rfl) (hc:(cs.drop off).take vs.length=vs:=by exact rfl) :
    ∀ w,St S w0 w L→(execOp (ev E) ⟨dst,.load t x,ty,pos,af,g⟩).run P w = .ok (.value (vG vs)) w:=x_loadN j vs hx hj hs hn hc
theorem ldF {α:Type} [Inhabited α] {f:α→List Value} {sz:Nat} {A:Option Addr} {xs:List α} {k:Nat} (o:Nat) (hf:∀ a,(f a).length=sz) (hr:∀ w,St S w0 w L→Cells w A (xs.flatMap f)) (hs:scal P t=true) (hx:ev E x = .pointer (some (adr A (k*sz+o))):=by exact rfl) (hc:(f (xs.getD k default))[o]? = some v:=by exact rfl) (hk:k<xs.length:=by exact lt_) :
    ∀ w,St S w0 w L→(execOp (ev E) ⟨dst,.load t x,ty,pos,af,g⟩).run P w = .ok (.value v) w:=
  x_load_at hr hx hs ((flat_at f sz hf xs default k o hk (by rw [← hf (xs.getD k default)];exact (List.getElem?_eq_some_iff.1 hc).1)).trans hc)
theorem ldF0 {α:Type} [Inhabited α] {f:α→List Value} {sz:Nat} {A:Option Addr} {xs:List α} {k:Nat} (hf:∀ a,(f a).length=sz) (hr:∀ w,St S w0 w L→Cells w A (xs.flatMap f)) (hs:scal P t=true) (hx:ev E x = .pointer (some (adr A (k*sz))):=by exact rfl) (hc:(f (xs.getD k default))[0]? = some v:=by exact rfl) (hk:k<xs.length:=by exact lt_) :
    ∀ w,St S w0 w L→(execOp (ev E) ⟨dst,.load t x,ty,pos,af,g⟩).run P w = .ok (.value v) w:=ldF 0 hf hr hs hx hc hk
theorem ldFN {α:Type} [Inhabited α] {f:α→List Value} {sz:Nat} {A:Option Addr} {xs:List α} {k:Nat} (hf:∀ a,(f a).length=sz) (hr:∀ w,St S w0 w L→Cells w A (xs.flatMap f)) (hs:aggs P t=true) (hn:sizeIs P t=some sz) (hx:ev E x = .pointer (some (adr A (k*sz))):=by exact rfl) (hk:k<xs.length:=by exact lt_) :
    ∀ w,St S w0 w L→(execOp (ev E) ⟨dst,.load t x,ty,pos,af,g⟩).run P w = .ok (.value (vG (f (xs.getD k default)))) w:=
  x_loadN_at (f (xs.getD k default)) hr hx hs (by rw [hf];exact hn) (by rw [hf];exact flat_drop f sz hf xs default k hk)
theorem ldM {α:Type} (f:α→Value) (d0:α) {A:Option Addr} {xs:List α} {k:Nat} (hr:∀ w,St S w0 w L→Cells w A (xs.map f)) (hs:scal P t=true) (hx:ev E x = .pointer (some (adr A k)):=by exact rfl) (hk:k<xs.length:=by exact lt_) :
    ∀ w,St S w0 w L→(execOp (ev E) ⟨dst,.load t x,ty,pos,af,g⟩).run P w = .ok (.value (f (xs.getD k d0))) w:=x_load_at hr hx hs (map_at f xs d0 hk)
theorem ixF {α:Type} {f:α→List Value} {kd:IntKind} {e:TypeId} {sz c k:Nat} {A:Option Addr} {xs:List α} (hf:∀ a,(f a).length=sz) (hr:∀ w,St S w0 w L→Cells w A (xs.flatMap f)) (ht:P.underlying t=Option.some (.slice e)) (hs:sizeIs P e=Option.some sz) (hp:Nat.blt 0 sz=true:=by rfl) (hx:ev E x = .slice A xs.length c:=by exact rfl) (hy:ev E y = .int kd (k:Int):=by exact rfl) (hk:k<xs.length:=by exact lt_) :
    ∀ w,St S w0 w L→(execOp (ev E) ⟨dst,.indexAddr t x y,ty,pos,af,g⟩).run P w = .ok (.value (pA A (k*sz))) w:=x_indexAddr_at hr ht hs hx hy hk (by rw [flat_length f sz hf];exact Nat.mul_pos (by omega) (by simpa [Nat.blt_eq] using hp)) rfl
theorem ixM {α:Type} {f:α→Value} {kd:IntKind} {e:TypeId} {c k:Nat} {A:Option Addr} {xs:List α} (hr:∀ w,St S w0 w L→Cells w A (xs.map f)) (ht:P.underlying t=Option.some (.slice e)) (hs:sizeIs P e=Option.some 1) (hx:ev E x = .slice A xs.length c:=by exact rfl) (hy:ev E y = .int kd (k:Int):=by exact rfl) (hk:k<xs.length:=by exact lt_) :
    ∀ w,St S w0 w L→(execOp (ev E) ⟨dst,.indexAddr t x y,ty,pos,af,g⟩).run P w = .ok (.value (pA A k)) w:=x_indexAddr_at hr ht hs hx hy hk (by rw [List.length_map];omega) (Nat.mul_one _)
theorem lnS {e:TypeId} {A:Option Addr} {n c:Nat} (ht:P.underlying t=some (.slice e)) (hx:ev E x = .slice A n c:=by exact rfl):(execOp (ev E) ⟨dst,.call ⟨.builtin .len,#[x],#[t]⟩,ty,pos,af,g⟩).run P w = .ok (.value (vI (n:Int))) w:=x_len_sl ht hx
variable {K:Value→List Ent→Prop}
theorem al_ {z:Value} (hz:zeroIs P t=some z) (k:∀ b,K (pB b 0) (Ent.blk b t z.cells.toList::L)):OpJ P S w0 E L ⟨dst,.alloc t,ty,pos,af,g⟩ K:=O_alloc hz rfl k
theorem bx1 (k:∀ b,K (pB b 0) (Ent.blk b t [v]::L)) (hx:evo E x=some v:=by exact rfl) (h1:one v=true:=by rfl):OpJ P S w0 E L ⟨dst,.box t x,ty,pos,af,g⟩ K:=O_box (evo_ev hx) (one_cells h1) k
theorem bxG {l:List Value} (k:∀ b,K (pB b 0) (Ent.blk b t l::L)) (hx:evo E x=some (vG l):=by exact rfl):OpJ P S w0 E L ⟨dst,.box t x,ty,pos,af,g⟩ K:=O_box (evo_ev hx) rfl k
theorem st1 (j:Nat) {b off:Nat} {tb:TypeId} {cs cs':List Value} {fz:Nat × Nat} {L':List Ent} (hn:sizeIs P t=some 1) (k:K undef L')
    (hx:ev E x = .pointer (some ⟨b,off,none⟩):=by exact rfl) (hy:evo E y=some v:=by exact rfl) (hj:L[j]? = some (Ent.blk b tb cs fz):=by exact rfl) (h1:one v=true:=by rfl)
    (hcs:SetA cs off v cs':=by repeat (first | exact SetA.here | apply SetA.there)) (hL:SetA L j (Ent.blk b tb cs' fz) L':=by repeat (first | exact SetA.here | apply SetA.there)):OpJ P S w0 E L ⟨dst,.store t x y,ty,pos,af,g⟩ K:=
  O_store j cs' L' hx (evo_ev hy) hj hn (by rw [one_cells h1];rfl) hcs.lt (by rw [one_cells h1];simp [one_cell' h1]) (by rw [one_cells h1];exact hcs.splice) hL.set k
theorem stG (j:Nat) {b m:Nat} {tb:TypeId} {cs vs:List Value} {fz:Nat × Nat} {L':List Ent} (hn:sizeIs P t=some m) (k:K undef L')
    (hx:ev E x = .pointer (some ⟨b,0,none⟩):=by exact rfl) (hy:evo E y=some (vG vs):=by exact rfl) (h1:vs.all Value.oneCell'=true:=by rfl) (hj:L[j]? = some (Ent.blk b tb cs fz):=by exact rfl) (hm:Nat.beq vs.length m=true:=by rfl) (hc:Nat.beq cs.length m=true:=by rfl)
    (hL:SetA L j (Ent.blk b tb vs fz) L':=by repeat (first | exact SetA.here | apply SetA.there)):OpJ P S w0 E L ⟨dst,.store t x y,ty,pos,af,g⟩ K:=
  O_storeS j vs L' hx (evo_ev hy) hj hn (Nat.eq_of_beq_eq_true hm) (by rw [Nat.eq_of_beq_eq_true hc];simp) h1 (st_all (by rw [Nat.eq_of_beq_eq_true hc];exact Nat.ble_eq_true_of_le (by omega))) hL.set k
theorem ex_ {l:List Value} (i:Nat) (hx:ev E x = .tuple l.toArray:=by exact rfl) (hi:l[i]? = some v:=by exact rfl):(execOp (ev E) ⟨dst,.extract x i,ty,pos,af,g⟩).run P w = .ok (.value v) w:=by
  obtain ⟨hlt,he⟩:=List.getElem?_eq_some_iff.1 hi
  simp only [execOp,hx]
  subst he
  show Sem.run P (do let v ← Instr.extract (.tuple l.toArray) i;pure (Next.value v)) w=_
  simp [Instr.extract,hlt]
theorem if_ {c1 c2:Code} {b:Bool} (h1:b=true→J P n S w0 c1 Q E L) (h2:b=false→J P n S w0 c2 Q E L) (hx:evo E x=some (.bool b):=by exact rfl) (hk:known E x=true:=by rfl):J P n S w0 (.cond x c1 c2) Q E L:=J_cond b hk (evo_ev hx) h1 h2
theorem ifd {c1 c2:Code} {p:Prop} [Decidable p] (h1:decide p=true→p→J P n S w0 c1 Q E L) (h2:decide p=false→¬p→J P n S w0 c2 Q E L) (hx:evo E x=some (.bool (decide p)):=by exact rfl) (hk:known E x=true:=by rfl):J P n S w0 (.cond x c1 c2) Q E L:=
  J_cond (decide p) hk (evo_ev hx) (fun h=>h1 h (of_decide_eq_true h)) (fun h=>h2 h (of_decide_eq_false h))
theorem ift {c1 c2:Code} (h:J P n S w0 c1 Q E L) (hx:evo E x=some (.bool true):=by exact rfl) (hk:known E x=true:=by rfl):J P n S w0 (.cond x c1 c2) Q E L:=J_cond true hk (evo_ev hx) (fun _=>h) (fun h=>by cases h)
theorem iff_ {c1 c2:Code} (h:J P n S w0 c2 Q E L) (hx:evo E x=some (.bool false):=by exact rfl) (hk:known E x=true:=by rfl):J P n S w0 (.cond x c1 c2) Q E L:=J_cond false hk (evo_ev hx) (fun h=>by cases h) (fun _=>h)
theorem c0 {o:Oper} {f:FuncId} {args:Array Value} {X:Value} (hr:∀ {w},(execOp (ev E) o).run P w = .ok (.enter f args) w) (hc:∀ w,St S w0 w ([]++L)→Calls P f args w (Gives [] w fun v L=>v=X∧L=[])) (h:JO P n S w0 ops rest Q (put E o.dst X) L) (hfit:fit n E o=true:=by rfl) (hw:wants ops E o:=by exact trivial):JO P n S w0 ops (o::rest) Q E L:=
  JO_call [] [] L hfit hw (fun _=>hr) (fun _ h=>h) (fun _ h=>by cases h) hc (by rintro _ _ ⟨rfl,rfl⟩;exact h)
theorem c0g {o:Oper} {f:FuncId} {args:Array Value} {X:Value} {t b:Bool} {j:Nat} (hg:t=b) (hr:∀ {w},(execOp (ev E) o).run P w = .ok (.enter f args) w) (hc:∀ w,St S w0 w ([]++L)→Calls P f args w (Gives [] w fun v L=>v=X∧L=[])) (h:JO P n S w0 ops rest Q (put E o.dst X) L) (hfit:fit n E o=true:=by rfl) (h1:o.guard=some (j,b):=by rfl) (h2:gval ops E j=some t:=by rfl):JO P n S w0 ops (o::rest) Q E L:=
  JO_call [] [] L hfit (wants_g hg h1 h2) (fun _=>hr) (fun _ h=>h) (fun _ h=>by cases h) hc (by rintro _ _ ⟨rfl,rfl⟩;exact h)
theorem c1 {o:Oper} {f:FuncId} {args:Array Value} {φ:Value→List Ent→Prop} (hr:∀ {w},(execOp (ev E) o).run P w = .ok (.enter f args) w) (hc:∀ w,St S w0 w ([]++L)→Calls P f args w (Gives [] w φ)) (h:∀ v L',φ v L'→JO P n S w0 ops rest Q (put E o.dst v) (L'++L)) (hfit:fit n E o=true:=by rfl) (hw:wants ops E o:=by exact trivial):JO P n S w0 ops (o::rest) Q E L:=
  JO_call [] [] L hfit hw (fun _=>hr) (fun _ h=>h) (fun _ h=>by cases h) hc h
theorem c1g {o:Oper} {f:FuncId} {args:Array Value} {φ:Value→List Ent→Prop} {t b:Bool} {j:Nat} (hg:t=b) (hr:∀ {w},(execOp (ev E) o).run P w = .ok (.enter f args) w) (hc:∀ w,St S w0 w ([]++L)→Calls P f args w (Gives [] w φ)) (h:∀ v L',φ v L'→JO P n S w0 ops rest Q (put E o.dst v) (L'++L)) (hfit:fit n E o=true:=by rfl) (h1:o.guard=some (j,b):=by rfl) (h2:gval ops E j=some t:=by rfl):JO P n S w0 ops (o::rest) Q E L:=
  JO_call [] [] L hfit (wants_g hg h1 h2) (fun _=>hr) (fun _ h=>h) (fun _ h=>by cases h) hc h
theorem cl_ {f:FuncId} {l:List Operand} {vs:List Value} {ts:Array TypeId} (hc:Callable P f) (ha:l.map (ev E)=vs:=by exact rfl):(execOp (ev E) ⟨dst,.call ⟨.value (.func f),l.toArray,ts⟩,ty,pos,af,g⟩).run P w = .ok (.enter f vs.toArray) w:=x_call hc ha
theorem rno {A:Option Addr} {cs:List Value} {w:World} (h:RO S w0 A cs) (hS:St S w0 w ([]++L)):RO [] w A cs:=h.on0 hS
theorem St.no {w:World} (h:St S w0 w L):St S w0 w []:=h.sublist (List.nil_sublist _)
theorem p1 {fn:Func} {t:Nat} {φ:Value→List Ent→Prop} (hr:fn.results = #[.tmp t]) (hv:get E t=some v) (hφ:φ v []) (hd:n.ds=[]:=by rfl):JX n S w0 (bodyPost P fn (Gives S w0 φ)) .ret E L:=JX_ret1 v hr hv [] (fun _ h=>h.no) hφ hd
theorem p2 {fn:Func} {t t2:Nat} {u v:Value} {φ:Value→List Ent→Prop} (hr:fn.results = #[.tmp t,.tmp t2]) (hv:get E t=some v) (hu:get E t2=some u) (hφ:φ (.tuple #[v,u]) []) (hd:n.ds=[]:=by rfl):JX n S w0 (bodyPost P fn (Gives S w0 φ)) .ret E L:=
  JX_rets [v,u] _ hr (fun _ _=>⟨hv,hu,trivial⟩) rfl [] (fun _ h=>h.no) hφ hd
theorem p3 {fn:Func} {t t2 t3:Nat} {u v s:Value} {φ:Value→List Ent→Prop} (hr:fn.results = #[.tmp t,.tmp t2,.tmp t3]) (hv:get E t=some v) (hu:get E t2=some u) (hs:get E t3=some s) (hφ:φ (.tuple #[v,u,s]) []) (hd:n.ds=[]:=by rfl):JX n S w0 (bodyPost P fn (Gives S w0 φ)) .ret E L:=
  JX_rets [v,u,s] _ hr (fun _ _=>⟨hv,hu,hs,trivial⟩) rfl [] (fun _ h=>h.no) hφ hd
def shunL (n:Dim) (ops:Array Oper) (E:Env) (gd:Nat) (gv:Bool):List Nat→List Oper→Bool
  | _,[]=>true
  | us,o::r=>match o.guard with
    | some (j,b)=>match (ops[j]?).bind (·.dst) with
      | some t=>((Nat.beq t gd&&(b != gv))||us.contains t)&&(match o.dst with
        | some d=>(get E d).isNone&&Nat.blt d n.sz&&shunL n ops E gd gv (d::us) r
        | none=>shunL n ops E gd gv us r)
      | none=>false
    | none=>false
structure Hid (n:Dim) (E:Env) (us:List Nat) (a:Act):Prop where
  rep:Rep n E a
  und:∀ t∈us,a.tmps.getD t undef=undef
theorem Hid.put {E:Env} {us:List Nat} {a:Act} {d:Nat} (h:Hid n E us a) (hd:(get E d).isNone=true) (hn:d<n.sz):Hid n E (d::us) (a.put (some d) undef):=by
  have hp:∀ t,t≠d→(a.put (some d) undef).tmps.getD t undef=a.tmps.getD t undef:=fun t ht=>by
    simp [Act.put,Array.getElem?_setIfInBounds_ne (fun e=>ht e.symm)]
  refine ⟨⟨h.rep.defers,by simp [Act.put,h.rep.size],fun t v hv=>?_⟩,fun t ht=>?_⟩
  · by_cases htd:t=d
    · subst htd;rw [hv] at hd;simp at hd
    · rw [hp t htd];exact h.rep.val t v hv
  · by_cases htd:t=d
    · subst htd;simp [Act.put,h.rep.size,hn]
    · rw [hp t htd]
      rcases List.mem_cons.1 ht with e | ht
      · exact absurd e htd
      · exact h.und t ht
theorem yielded_of {a:Act} {j t:Nat} {v:Value} (hj:(ops[j]?).bind (·.dst)=some t) (hv:a.tmps.getD t undef=v) (b:Bool) (hb:v=undef∨v=vB (!b)):(yielded ops a.tmps j == some b)=false:=by
  unfold yielded
  rw [hj]
  simp only [Array.getD_eq_getD_getElem?] at hv
  cases hx:a.tmps[t]? with
  | none=>simp [hx]
  | some u =>
    rw [hx] at hv;simp at hv;subst hv
    rcases hb with rfl | rfl
    · simp [hx,undef]
    · simp [hx]
theorem shunL_run {E:Env} {gd:Nat} {gv:Bool} (hg:get E gd=some (vB gv)):∀ (l:List Oper) (us:List Nat),shunL n ops E gd gv us l=true → ∀ (Q:Post) (a:Act) (w:World),Hid n E us a→(∀ a',Rep n E a'→Q .normal a' w)→wpListIn (Wd n.ro) 0 P ops Q l a w
  | [],us,_,Q,a,w,hh,hq=>hq a hh.rep
  | o::l,us,hs,Q,a,w,hh,hq=>by
    unfold shunL at hs
    cases hgd:o.guard with
    | none=>rw [hgd] at hs;cases hs
    | some p =>
      obtain ⟨j,b⟩:=p
      rw [hgd] at hs
      simp only at hs
      cases hj:(ops[j]?).bind (·.dst) with
      | none=>rw [hj] at hs;cases hs
      | some t =>
        rw [hj] at hs
        simp only [Bool.and_eq_true,Bool.or_eq_true] at hs
        have hno:Region.wanted o (yielded ops a.tmps)=false:=by
          unfold Region.wanted
          rw [hgd]
          rcases hs.1 with h | h
          · have ht:=Nat.eq_of_beq_eq_true h.1
            subst ht
            refine yielded_of hj (hh.rep.val _ _ hg) b (.inr ?_)
            have:=h.2
            cases b <;> cases gv <;> first | rfl | cases this
          · exact yielded_of hj (hh.und t (by simpa using h)) b (.inl rfl)
        unfold wpListIn
        rw [if_neg (by rw [hno];simp)]
        refine ⟨fun _ _=>trivial,?_⟩
        cases hd:o.dst with
        | none =>
          rw [hd] at hs
          exact shunL_run hg l us hs.2 Q _ w hh hq
        | some d =>
          rw [hd] at hs
          simp only [Bool.and_eq_true] at hs
          exact shunL_run hg l (d::us) hs.2.2 Q _ w (hh.put hs.2.1.1 (by simpa [Nat.blt_eq] using hs.2.1.2)) hq
def CutR (n:Dim) (S:List Nat) (w0:World) (E:Env) (t:Nat) (r:Bool) (L:List Ent) (Q:Post):Post:=
  Exit.then (fun a w=>Rep n E a∧a.tmps.getD t undef=vB r∧St S w0 w L) Q
theorem cr_ {E2:Env} {L2:List Ent} {r:Bool} {t:Nat} (hL:∀ w,St S w0 w L2→St S w0 w L:=by exact fun _ h=>h) (hr:get E2 t=some (vB r):=by exact rfl) (hg:grown E2 E:=by exact ⟨rfl,rfl⟩):JO P n S w0 ops [] (CutR n S w0 E t r L Q) E2 L2:=
  fun _ w hR hS=>⟨hR.grown hg,hR.val t _ hr,hL w hS⟩
theorem run_pick (e:Operand→Value) {z:Operand} {b:Bool} (hz:e z=vB b):(execOp e ⟨dst,.pick z x y,ty,pos,af,g⟩).run P w = .ok (.value (if b then e x else e y)) w:=by
  simp only [execOp,hz];rfl
theorem pick_step {a:Act} {w:World} {b:Bool} {gd d:Nat} (hR:Rep n E a) (hS:St S w0 w L) (hz:a.tmps.getD gd undef=vB b) (hv:(if b then a.eval x else a.eval y)=v) (hw:wants ops E ⟨some d,.pick (.tmp gd) x y,ty,pos,af,g⟩) (hd:Nat.blt d n.sz=true) (h:JO P n S w0 ops rest Q ((d,v)::E) L) :
    wpListIn (Wd n.ro) 0 P ops Q (⟨some d,.pick (.tmp gd) x y,ty,pos,af,g⟩::rest) a w:=by
  unfold wpListIn
  rw [if_pos (wants_wanted hR hw)]
  refine ⟨fun _ _=>trivial,?_⟩
  rw [Oper.semAt_eq _ _ _ (fun c hc=>by cases hc),run_pick a.eval (z:=.tmp gd) (b:=b) hz,hv]
  exact h _ _ (hR.put (dst:=some d) (fun k hk=>by injection hk with hk;subst hk;simpa [Nat.blt_eq] using hd) v) hS
theorem and_ (m:Nat) (r:Bool) {l:List Oper} {gb:Bool} {gd d t:Nat} {gg:Option (Nat × Bool)} (h1:gb=true→JO P n S w0 ops (l.take m) (CutR n S w0 E t r L Q) E L) (h2:JO P n S w0 ops rest Q ((d,vB (gb&&r))::E) L)
    (hd:l.drop m=⟨some d,.pick (.tmp gd) (.tmp t) (.const (vB false)),ty,pos,af,gg⟩::rest:=by exact rfl) (hg:get E gd=some (vB gb):=by exact rfl) (hdn:Nat.blt d n.sz=true:=by rfl)
    (hs:shunL n ops ((gd,vB false)::E) gd false [] (l.take m)=true:=by rfl) (hw:wants ops E ⟨some d,.pick (.tmp gd) (.tmp t) (.const (vB false)),ty,pos,af,gg⟩:=by exact trivial):JO P n S w0 ops l Q E L:=by
  intro a w hR hS
  refine wpListIn_take m l a w ?_
  cases gb with
  | false =>
    refine shunL_run (E:=(gd,vB false)::E) (by simp [get]) _ [] hs _ a w ⟨?_,by simp⟩ (fun a' hR'=>?_)
    · exact ⟨hR.defers,hR.size,fun t v hv=>hR.val t v (by
        simp only [get] at hv
        cases hb:Nat.beq gd t with
        | true=>rw [hb] at hv;have:=Nat.eq_of_beq_eq_true hb;subst this;rw [hg];exact hv
        | false=>rw [hb] at hv;exact hv)⟩
    · show wpListIn (Wd n.ro) 0 P ops Q (l.drop m) a' w
      rw [hd]
      have hR2:Rep n E a':=⟨hR'.defers,hR'.size,fun t v hv=>hR'.val t v (by
        simp only [get]
        cases hb:Nat.beq gd t with
        | true=>have:=Nat.eq_of_beq_eq_true hb;subst this;rw [hg] at hv;exact hv
        | false=>exact hv)⟩
      exact pick_step (b:=false) hR2 hS (hR2.val _ _ hg) rfl hw hdn h2
  | true =>
    refine wpListIn_mono ?_ _ _ _ (h1 rfl a w hR hS)
    intro e a' w' hq
    cases e with
    | normal =>
      obtain ⟨hR',hr,hS'⟩:=hq
      show wpListIn (Wd n.ro) 0 P ops Q (l.drop m) a' w'
      rw [hd]
      exact pick_step (b:=true) (v:=vB r) hR' hS' (hR'.val _ _ hg) hr hw hdn h2
    | _=>exact hq
theorem or_ (m:Nat) (r:Bool) {l:List Oper} {gb:Bool} {gd d t:Nat} {gg:Option (Nat × Bool)} (h1:gb=false→JO P n S w0 ops (l.take m) (CutR n S w0 E t r L Q) E L) (h2:JO P n S w0 ops rest Q ((d,vB (gb||r))::E) L)
    (hd:l.drop m=⟨some d,.pick (.tmp gd) (.const (vB true)) (.tmp t),ty,pos,af,gg⟩::rest:=by exact rfl) (hg:get E gd=some (vB gb):=by exact rfl) (hdn:Nat.blt d n.sz=true:=by rfl)
    (hs:shunL n ops ((gd,vB true)::E) gd true [] (l.take m)=true:=by rfl) (hw:wants ops E ⟨some d,.pick (.tmp gd) (.const (vB true)) (.tmp t),ty,pos,af,gg⟩:=by exact trivial):JO P n S w0 ops l Q E L:=by
  intro a w hR hS
  refine wpListIn_take m l a w ?_
  cases gb with
  | true =>
    refine shunL_run (E:=(gd,vB true)::E) (by simp [get]) _ [] hs _ a w ⟨?_,by simp⟩ (fun a' hR'=>?_)
    · exact ⟨hR.defers,hR.size,fun t v hv=>hR.val t v (by
        simp only [get] at hv
        cases hb:Nat.beq gd t with
        | true=>rw [hb] at hv;have:=Nat.eq_of_beq_eq_true hb;subst this;rw [hg];exact hv
        | false=>rw [hb] at hv;exact hv)⟩
    · show wpListIn (Wd n.ro) 0 P ops Q (l.drop m) a' w
      rw [hd]
      have hR2:Rep n E a':=⟨hR'.defers,hR'.size,fun t v hv=>hR'.val t v (by
        simp only [get]
        cases hb:Nat.beq gd t with
        | true=>have:=Nat.eq_of_beq_eq_true hb;subst this;rw [hg] at hv;exact hv
        | false=>exact hv)⟩
      exact pick_step (b:=true) hR2 hS (hR2.val _ _ hg) rfl hw hdn h2
  | false =>
    refine wpListIn_mono ?_ _ _ _ (h1 rfl a w hR hS)
    intro e a' w' hq
    cases e with
    | normal =>
      obtain ⟨hR',hr,hS'⟩:=hq
      show wpListIn (Wd n.ro) 0 P ops Q (l.drop m) a' w'
      rw [hd]
      exact pick_step (b:=false) (v:=vB r) hR' hS' (hR'.val _ _ hg) hr hw hdn h2
    | _=>exact hq
theorem q_ {c1 c2:Code} (h:J P n S w0 c1 (Exit.then (c2.wpIn (Wd n.ro) 0 P Q) Q) E L):J P n S w0 (.seq c1 c2) Q E L:=J_seq h
theorem g_ {id:Nat} {l:List Oper} (h:JO P n S w0 l.toArray l Q E L):J P n S w0 (.region id l.toArray false) Q E L:=J_region h
theorem n_ {c:Code} {Q':Post} (h:J P n S w0 c Q E L):JX n S w0 (Exit.then (c.wpIn (Wd n.ro) 0 P Q) Q') .normal E L:=h
theorem z_ (h:JX n S w0 Q .normal E L):JO P n S w0 ops [] Q E L:=h
theorem k_ {id:Nat} {c:Code} (h:J P n S w0 c (Exit.inBlock id Q) E L):J P n S w0 (.block id c) Q E L:=J_block h
theorem kx_ {id:Nat} (h:JX n S w0 Q .normal E L):JX n S w0 (Exit.inBlock id Q) .normal E L:=h
theorem nr_ {K:Act→World→Prop} (h:JX n S w0 Q .ret E L):JX n S w0 (Exit.then K Q) .ret E L:=h
theorem kq_ {id:Nat} (h:JX n S w0 Q .ret E L):JX n S w0 (Exit.inBlock id Q) .ret E L:=h
theorem rr_ {X:Type} {I:X→Prop} {Ef:X→Env} {Lf:X→List Ent} {μ:X→Nat} {m:Nat} (h:JX n S w0 Q .ret E L):JX n S w0 (Round n S w0 I Ef Lf μ m Q) .ret E L:=h
theorem ne_ {K:Act→World→Prop} {id:Nat} (h:JX n S w0 Q (.exit id) E L):JX n S w0 (Exit.then K Q) (.exit id) E L:=h
theorem kh_ {id:Nat} (h:JX n S w0 Q .normal E L):JX n S w0 (Exit.inBlock id Q) (.exit id) E L:=JX_block_hit h
theorem re_ {X:Type} {I:X→Prop} {Ef:X→Env} {Lf:X→List Ent} {μ:X→Nat} {m id:Nat} (h:JX n S w0 Q (.exit id) E L):JX n S w0 (Round n S w0 I Ef Lf μ m Q) (.exit id) E L:=h
theorem sk_ (h:JX n S w0 Q .normal E L):J P n S w0 .skip Q E L:=J_skip h
theorem rt_ (h:JX n S w0 Q .ret E L):J P n S w0 .ret Q E L:=J_ret h
theorem drB {id:Nat} {l:List Oper} (us:List Nat) (m:Nat) (hm:P.follows .mixedOrders=true) (h:JA P n S w0 l.toArray Q L us L m (Array.replicate m false) E L) (hl:l.length=m:=by rfl):J P n S w0 (.region id l.toArray true) Q E L:=J_draw L us L m hm hl h
theorem drU {id:Nat} {l:List Oper} (Lg:List Ent) (us:List Nat) (m:Nat) (hm:P.follows .mixedOrders=true) (h:JA P n S w0 l.toArray Q Lg us L m (Array.replicate m false) E L) (hl:l.length=m:=by rfl):J P n S w0 (.region id l.toArray true) Q E L:=J_draw Lg us L m hm hl h
theorem eI {a b:Int} (h:a=b):vI a=vI b:=h ▸ rfl
theorem eS {a b:Bytes} (h:a=b):vS a=vS b:=h ▸ rfl
theorem eB {a b:Bool} (h:a=b):vB a=vB b:=h ▸ rfl
theorem t2 {a b c d:Value} (h:a=c) (k:b=d):Value.tuple #[a,b]=Value.tuple #[c,d]:=h ▸ k ▸ rfl
theorem t3 {a b c d e f:Value} (h:a=d) (k:b=e) (l:c=f):Value.tuple #[a,b,c]=Value.tuple #[d,e,f]:=h ▸ k ▸ l ▸ rfl
theorem xk_ (ks:List Nat) {e:Exit} {E':Env} (h:JX n S w0 Q e E' L) (hs:Sub E ks E':=by repeat' (first | exact Sub.nil | apply Sub.cons | exact rfl)):JX n S w0 Q e E L:=JX_weaken hs.sub (fun _ h=>h) h
theorem gl_ (hu:(us.all fun u=>!listed.getD u true)=false:=by rfl) (hL:∀ w,St S w0 w L→St S w0 w Lg:=by exact fun _ h=>h):∀ w,St S w0 w L→GL S w0 Lg us Lu listed w:=fun w h=>⟨hL w h,fun hh=>by rw [hu] at hh;cases hh⟩
theorem gm_:∀ w,St S w0 w L→GL S w0 L us L listed w:=fun _ h=>⟨h,fun _=>h⟩
theorem jp_ (i:Nat) {o:Oper} (hi:ops[i]? = some o) (hr:∀ {w},(execOp (ev E) o).run P w = .ok (.value v) w) (h:JA P n S w0 ops Q Lg us Lu fuel (listed.setIfInBounds i true) (put E o.dst v) L)
    (hs:Region.noSelect ops=true:=by kernel_rfl) (hf:Region.free .any ops listed i=true:=by kernel_rfl) (hc:(Region.ready .any ops listed).contains i=true:=by kernel_rfl) (hu:us.contains i=false:=by rfl)
    (hQ:∀ c a w,Q (.panic c) (a.put o.dst v) w→Q (.panic c) a w:=by exact fun _ _ _ h=>h) (hfit:fit n E o=true:=by rfl) (hw:wants ops E o:=by exact trivial):JA P n S w0 ops Q Lg us Lu (fuel+1) listed E L:=JA_take i v hi hs hf hc hu hQ hfit hw (fun _ _=>hr) h
theorem jq_ (i:Nat) {o:Oper} (hi:ops[i]? = some o) (hr:∀ w,St S w0 w Lg→(execOp (ev E) o).run P w = .ok (.value v) w) (h:JA P n S w0 ops Q Lg us Lu fuel (listed.setIfInBounds i true) (put E o.dst v) L)
    (hs:Region.noSelect ops=true:=by kernel_rfl) (hf:Region.free .any ops listed i=true:=by kernel_rfl) (hc:(Region.ready .any ops listed).contains i=true:=by kernel_rfl) (hu:us.contains i=false:=by rfl)
    (hQ:∀ c a w,Q (.panic c) (a.put o.dst v) w→Q (.panic c) a w:=by exact fun _ _ _ h=>h) (hfit:fit n E o=true:=by rfl) (hw:wants ops E o:=by exact trivial):JA P n S w0 ops Q Lg us Lu (fuel+1) listed E L:=JA_take i v hi hs hf hc hu hQ hfit hw hr h
theorem js2_ (i:Nat) {o:Oper} (hi:ops[i]? = some o) (h:JA P n S w0 ops Q Lg us Lu fuel (listed.setIfInBounds i true) (put E o.dst undef) L)
    (hs:Region.noSelect ops=true:=by kernel_rfl) (hf:Region.free .any ops listed i=true:=by kernel_rfl) (hc:(Region.ready .any ops listed).contains i=true:=by kernel_rfl) (hu:us.contains i=false:=by rfl)
    (hQ:∀ c a w,Q (.panic c) (a.put o.dst undef) w→Q (.panic c) a w:=by exact fun _ _ _ h=>h) (hd:dstOk n o.dst=true:=by rfl) (hw:shuns ops E o:=by exact ⟨_,rfl,rfl⟩):JA P n S w0 ops Q Lg us Lu (fuel+1) listed E L:=JA_shun i hi hs hf hc hu hQ hd hw h
theorem ju_ (i:Nat) {o:Oper} (hi:ops[i]? = some o) (h:JA P n S w0 ops Q Lg us Lu fuel (listed.setIfInBounds i true) (put E o.dst undef) L)
    (hs:Region.noSelect ops=true:=by kernel_rfl) (hf:Region.free .any ops listed i=true:=by kernel_rfl) (hc:(Region.ready .any ops listed).contains i=true:=by kernel_rfl) (hu:us.contains i=false:=by rfl)
    (hQ:∀ c a w,Q (.panic c) (a.put o.dst undef) w→Q (.panic c) a w:=by exact fun _ _ _ h=>h) (hd:dstOk n o.dst=true:=by rfl) (hw:gundef ops E o:=by exact ⟨_,rfl,rfl⟩):JA P n S w0 ops Q Lg us Lu (fuel+1) listed E L:=JA_shunU i hi hs hf hc hu hQ hd hw h
theorem jb_ (d:Nat) {b:Bool} (h1:b=true→JA P n S w0 ops Q Lg us Lu fuel listed ((d,vB true)::E) L) (h2:b=false→JA P n S w0 ops Q Lg us Lu fuel listed ((d,vB false)::E) L) (hb:get E d=some (vB b):=by exact rfl):JA P n S w0 ops Q Lg us Lu fuel listed E L:=by
  intro a w hR hS hc
  have key:∀ z,b=z→Rep n ((d,vB z)::E) a:=fun z hz=>⟨hR.defers,hR.size,fun t v hv=>hR.val t v (by
    simp only [get] at hv
    cases hq:Nat.beq d t with
    | true=>rw [hq] at hv;have:=Nat.eq_of_beq_eq_true hq;subst this;subst hz;rw [hb];exact hv
    | false=>rw [hq] at hv;exact hv)⟩
  cases hz:b with
  | true=>exact h1 hz a w (key true hz) hS hc
  | false=>exact h2 hz a w (key false hz) hS hc
theorem j1_ (i:Nat) (h:JI P n S w0 ops Q Lg us Lu fuel listed E L i) (hL:∀ w,St S w0 w L→GL S w0 Lg us Lu listed w) (hr:Region.ready .any ops listed=[i]:=by kernel_rfl):JA P n S w0 ops Q Lg us Lu (fuel+1) listed E L:=JA_one i hr hL h
theorem jio_ {i:Nat} {o:Oper} (hi:ops[i]? = some o) (h:OpJ P S w0 E L o fun v L'=>JA P n S w0 ops Q Lg us Lu fuel (listed.setIfInBounds i true) (put E o.dst v) L') (hfit:fit n E o=true:=by rfl) (hw:wants ops E o:=by exact trivial):JI P n S w0 ops Q Lg us Lu fuel listed E L i:=JI_op hi hfit hw h
theorem jir_ {i:Nat} {o:Oper} (hi:ops[i]? = some o) (hr:∀ w,St S w0 w L→(execOp (ev E) o).run P w = .ok (.value v) w) (h:JA P n S w0 ops Q Lg us Lu fuel (listed.setIfInBounds i true) (put E o.dst v) L) (hfit:fit n E o=true:=by rfl) (hw:wants ops E o:=by exact trivial):JI P n S w0 ops Q Lg us Lu fuel listed E L i:=JI_op hi hfit hw fun w hS=>⟨v,L,w,.inl (hr w hS),hS,h⟩
theorem jc0_ {i:Nat} {o:Oper} {f:FuncId} {args:Array Value} {X:Value} (hi:ops[i]? = some o) (hr:∀ {w},(execOp (ev E) o).run P w = .ok (.enter f args) w) (hc:∀ w,St S w0 w ([]++L)→Calls P f args w (Gives [] w fun v L=>v=X∧L=[])) (h:JA P n S w0 ops Q Lg us Lu fuel (listed.setIfInBounds i true) (put E o.dst X) L) (hfit:fit n E o=true:=by rfl) (hw:wants ops E o:=by exact trivial):JI P n S w0 ops Q Lg us Lu fuel listed E L i:=
  JI_call [] [] L hi hfit hw (fun _=>hr) (fun _ h=>h) (fun _ h=>by cases h) hc (by rintro _ _ ⟨rfl,rfl⟩;exact h)
theorem jc1_ {i:Nat} {o:Oper} {f:FuncId} {args:Array Value} {φ:Value→List Ent→Prop} (hi:ops[i]? = some o) (hr:∀ {w},(execOp (ev E) o).run P w = .ok (.enter f args) w) (hc:∀ w,St S w0 w ([]++L)→Calls P f args w (Gives [] w φ)) (h:∀ v L',φ v L'→JA P n S w0 ops Q Lg us Lu fuel (listed.setIfInBounds i true) (put E o.dst v) (L'++L)) (hfit:fit n E o=true:=by rfl) (hw:wants ops E o:=by exact trivial):JI P n S w0 ops Q Lg us Lu fuel listed E L i:=
  JI_call [] [] L hi hfit hw (fun _=>hr) (fun _ h=>h) (fun _ h=>by cases h) hc h
end
end Go.GV
namespace Go.GV
theorem St.turn {S:List Nat} {w0 w:World} {L:List Ent} {e e':Ent} (h:St S w0 w (e::L)) (ho:e'.own=e.own) (hp:∀ o,e.prop o→e'.prop o):St S w0 w (e'::L):=by
  have hd:=List.pairwise_cons.1 h.dis
  refine ⟨h.fr,fun x hx=>?_,List.pairwise_cons.2 ⟨fun x hx b hb=>hd.1 x hx b (by rw [← ho];exact hb),hd.2⟩,fun x hx b hb=>?_⟩
  · rcases List.mem_cons.1 hx with rfl | hx
    · have:=h.hold e (by simp)
      exact ⟨by rw [ho];exact hp _ this.1,fun b hb=>this.2 b (by rw [← ho];exact hb)⟩
    · exact h.hold x (by simp [hx])
  · rcases List.mem_cons.1 hx with rfl | hx
    · exact h.own e (by simp) b (by rw [← ho];exact hb)
    · exact h.own x (by simp [hx]) b hb
end Go.GV
