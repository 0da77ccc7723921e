/- GvA: a small calculus for symbolic runs: an environment of known slots, a list of blocks that the call owns, the world a variable. Rules for control, regions in text order, regions that draw, calls, loops. -/
import Derived.WalkKit
import Derived.Deep.LoopGhost
import Derived.Scope
import Derived.OrdersIn
import Derived.TacticsIn
import Derived.Sort.LoopGhostIn
import Derived.RangeFuncLeaves
set_option linter.unusedVariables false
set_option linter.unusedSimpArgs false
namespace Go.GV
open Go.RowKit
abbrev Env:=List (Nat × Value)
abbrev Post:=Exit→Act→World→Prop
def get:Env→Nat→Option Value
  | [],_=>none
  | (k,v)::r,t=>bif Nat.beq k t then some v else get r t
def put (E:Env):Option Nat→Value→Env
  | some d,v=>(d,v)::E
  | none,_=>E
structure Dim where
  sz:Nat
  ds:List Deferred:=[]
  ro:Option Nat:=none
abbrev Wd (ro:Option Nat):Fence:={ Fence.wide with round:=ro }
theorem callsIn_wd {ro:Option Nat} {m:Nat} {P:Program} {f:FuncId} {args:Array Value} {w:World} {R:Ending→World→Prop} : CallsIn (Wd ro) m P f args w R↔Calls P f args w R:=callsIn_wide (n:=m)
structure Rep (n:Dim) (E:Env) (a:Act):Prop where
  defers:a.defers=n.ds
  size:a.tmps.size=n.sz
  val:∀ t v,get E t=some v→a.tmps.getD t undef=v
def ev (E:Env):Operand→Value
  | .tmp t=>(get E t).getD undef
  | .const v=>v
  | .global g=>.pointer (some ⟨g,0,none⟩)
  | .func f=>.func (.func f) #[] #[]
def known (E:Env):Operand→Bool
  | .tmp t=>(get E t).isSome
  | _=>true
theorem Rep.eval {n:Dim} {E:Env} {a:Act} (h:Rep n E a) {x:Operand} (hx:known E x=true):a.eval x=ev E x:=by
  cases x with
  | tmp t =>
    simp only [known] at hx
    obtain ⟨v,hv⟩:=Option.isSome_iff_exists.1 hx
    simp only [Act.eval,ev,hv,Option.getD_some]
    exact h.val t v hv
  | _=>rfl
theorem Rep.put {n:Dim} {E:Env} {a:Act} (h:Rep n E a) {dst:Option Nat} (hd:∀ d,dst=some d→d<n.sz) (v:Value):Rep n (put E dst v) (a.put dst v):=by
  cases dst with
  | none=>exact h
  | some d =>
    refine ⟨h.defers,by simp [Act.put,h.size],fun t u hu=>?_⟩
    have hlt:=hd d rfl
    simp only [GV.put,get] at hu
    by_cases hdt:d=t
    · subst hdt
      simp at hu
      subst hu
      simp [Act.put,h.size,hlt]
    · have:Nat.beq d t=false:=by
        cases hb:Nat.beq d t
        · rfl
        · exact absurd (Nat.eq_of_beq_eq_true hb) hdt
      rw [this] at hu
      have:=h.val t u hu
      simpa [Act.put,Array.getElem?_setIfInBounds_ne hdt] using this
def SubE (E:Env):Env→Prop
  | []=>True
  | (t,v)::r=>get E t=some v∧SubE E r
theorem SubE.get {E E':Env} (h:SubE E E') (t:Nat) (v:Value) (hv:GV.get E' t=some v):GV.get E t=some v:=by
  induction E' with
  | nil=>simp [GV.get] at hv
  | cons p r ih =>
    obtain ⟨k,u⟩:=p
    simp only [GV.get] at hv
    cases hb:Nat.beq k t
    · rw [hb] at hv;exact ih h.2 hv
    · rw [hb] at hv
      have hk:=Nat.eq_of_beq_eq_true hb
      subst hk
      simp at hv;subst hv
      exact h.1
theorem Rep.sub {n:Dim} {E E':Env} {a:Act} (h:Rep n E a) (hs:SubE E E'):Rep n E' a:=⟨h.defers,h.size,fun t v hv=>h.val t v (hs.get t v hv)⟩
structure Ent where
  own:Option Nat
  prop:Option Obj→Prop
def Ent.at (e:Ent) (w:World):Prop:=e.prop (e.own.bind fun b=>w.heap[b]?) ∧ ∀ b,e.own=some b→b<w.heap.size
structure Fr (S:List Nat) (w0 w:World):Prop where
  os:w.os=w0.os
  tape:w.tape=w0.tape
  output:w.output=w0.output
  size:w0.heap.size≤w.heap.size
  block:∀ i,i<w0.heap.size→i∉S→w.heap[i]? = w0.heap[i]?
theorem Fr.refl (S:List Nat) (w:World):Fr S w w:=⟨rfl,rfl,rfl,Nat.le_refl _,fun _ _ _=>rfl⟩
theorem Fr.trans {S:List Nat} {a b c:World} (h:Fr S a b) (k:Fr S b c):Fr S a c:=
  ⟨k.os.trans h.os,k.tape.trans h.tape,k.output.trans h.output,Nat.le_trans h.size k.size,fun i hi hn=>(k.block i (Nat.lt_of_lt_of_le hi h.size) hn).trans (h.block i hi hn)⟩
theorem Fr.below {w0 w:World} (h:Fr [] w0 w):Below w0.heap.size w0 w:=⟨h.os,h.tape,h.output,h.size,fun i hi=>h.block i hi (by simp)⟩
theorem Fr.of_below {w0 w:World} (h:Below w0.heap.size w0 w):Fr [] w0 w:=⟨h.os,h.tape,h.output,h.size,fun i hi _=>h.block i hi⟩
theorem Fr.drew (S:List Nat) (w:World):Fr S w w.drew:=⟨rfl,rfl,rfl,Nat.le_refl _,fun _ _ _=>rfl⟩
theorem Fr.mono {S S':List Nat} {w0 w:World} (h:Fr S w0 w) (hs:∀ b∈S,b∈S'):Fr S' w0 w:=⟨h.os,h.tape,h.output,h.size,fun i hi hn=>h.block i hi fun hc=>hn (hs i hc)⟩
def Dis (x y:Ent):Prop:=∀ b,x.own=some b→y.own≠some b
structure St (S:List Nat) (w0 w:World) (L:List Ent):Prop where
  fr:Fr S w0 w
  hold:∀ e∈L,e.at w
  dis:L.Pairwise Dis
  own:∀ e∈L,∀ b,e.own=some b→b∈S∨w0.heap.size≤b
theorem St.nil {S:List Nat} {w0 w:World} (h:Fr S w0 w):St S w0 w []:=⟨h,by simp,.nil,by simp⟩
theorem St.tail {S:List Nat} {w0 w:World} {e:Ent} {L:List Ent} (h:St S w0 w (e::L)):St S w0 w L:=
  ⟨h.fr,fun x hx=>h.hold x (List.mem_cons_of_mem _ hx),(List.pairwise_cons.1 h.dis).2,fun x hx=>h.own x (List.mem_cons_of_mem _ hx)⟩
theorem St.sublist {S:List Nat} {w0 w:World} {L L':List Ent} (h:St S w0 w L) (hs:L'.Sublist L):St S w0 w L':=
  ⟨h.fr,fun x hx=>h.hold x (hs.subset hx),h.dis.sublist hs,fun x hx=>h.own x (hs.subset hx)⟩
theorem St.perm {S:List Nat} {w0 w:World} {L L':List Ent} (h:St S w0 w L) (hs:L.Perm L'):St S w0 w L':=
  ⟨h.fr,fun x hx=>h.hold x (hs.symm.subset hx),(hs.pairwise_iff (fun {x y} (hxy:Dis x y) b hb hb'=>hxy b hb' hb)).1 h.dis,fun x hx=>h.own x (hs.symm.subset hx)⟩
theorem perm_front {α:Type} : ∀ (L:List α) (j:Nat) (h:j<L.length),(L[j]::L.eraseIdx j).Perm L
  | x::L,0,_=>.refl _
  | x::L,j+1,h=>(List.Perm.swap x (L[j]'(by simpa using h)) _).trans ((perm_front L j (by simpa using h)).cons x)
def mask {α:Type} : List Bool→List α→List α
  | true::m,e::L=>e::mask m L
  | false::m,_::L=>mask m L
  | _,_=>[]
theorem mask_sublist {α:Type} : ∀ (m:List Bool) (L:List α),(mask m L).Sublist L
  | true::m,e::L=>(mask_sublist m L).cons_cons e
  | false::m,_::L=>(mask_sublist m L).cons _
  | [],L=>by cases L <;> exact List.nil_sublist _
  | true::_,[]=>.slnil
  | false::_,[]=>.slnil
theorem St.keep {S:List Nat} {w0 w:World} {L L':List Ent} (m:List Bool) (hm:mask m L=L') (h:St S w0 w L):St S w0 w L':=hm ▸ h.sublist (mask_sublist m L)
theorem St.front {S:List Nat} {w0 w:World} {L:List Ent} (h:St S w0 w L) (j:Nat) (e:Ent) (hj:L[j]? = some e):St S w0 w (e::L.eraseIdx j):=by
  refine h.perm ?_
  obtain ⟨hlt,rfl⟩:=List.getElem?_eq_some_iff.1 hj
  exact (perm_front L j hlt).symm
theorem Ent.at_frame {e:Ent} {w w':World} (h:e.at w) (hs:w.heap.size≤w'.heap.size) (hb:∀ b,e.own=some b→w'.heap[b]? = w.heap[b]?):e.at w':=by
  refine ⟨?_,fun b ho=>Nat.lt_of_lt_of_le (h.2 b ho) hs⟩
  have h1:=h.1
  cases ho:e.own with
  | none=>rw [ho] at h1;exact h1
  | some b=>rw [ho] at h1;simp only [Option.bind_some] at h1 ⊢;rw [hb b ho];exact h1
theorem St.step {S:List Nat} {w0 w w':World} {L:List Ent} (h:St S w0 w L) (hf:Fr [] w w'):St S w0 w' L:=
  ⟨h.fr.trans (hf.mono (by simp)),fun e he=>Ent.at_frame (h.hold e he) hf.size fun b hb=>hf.block b ((h.hold e he).2 b hb) (by simp),h.dis,h.own⟩
theorem St.alloc {S:List Nat} {w0 w:World} {L:List Ent} (h:St S w0 w L) (o:Obj) (e:Ent) (hown:e.own=some w.heap.size) (hp:e.prop (some o)):St S w0 (w.alloc o) (e::L):=by
  have hf:Fr [] w (w.alloc o):=⟨rfl,rfl,rfl,by simp,fun i hi _=>Below.heap_alloc w o i hi⟩
  have hs:=h.step hf
  refine ⟨hs.fr,?_,?_,?_⟩
  · intro x hx
    rcases List.mem_cons.1 hx with rfl | hx
    · refine ⟨?_,fun b hb=>?_⟩
      · rw [hown];simp only [Option.bind_some]
        rw [heap_alloc_new];exact hp
      · rw [hown] at hb;injection hb with hb;subst hb;simp
    · exact hs.hold x hx
  · refine List.pairwise_cons.2 ⟨fun x hx b hb hb'=>?_,h.dis⟩
    rw [hown] at hb;injection hb with hb;subst hb
    exact absurd ((h.hold x hx).2 _ hb') (by omega)
  · intro x hx b hb
    rcases List.mem_cons.1 hx with rfl | hx
    · rw [hown] at hb;injection hb with hb;subst hb;exact .inr h.fr.size
    · exact h.own x hx b hb
theorem St.write {S:List Nat} {w0 w w':World} {e e':Ent} {L:List Ent} (h:St S w0 w (e::L)) (b:Nat) (ho:e.own=some b) (ho':e'.own=some b)
    (hf:Fr [b] w w') (hp:e'.prop w'.heap[b]?):St S w0 w' (e'::L):=by
  have hb:=(h.hold e (by simp)).2 b ho
  have hd:=List.pairwise_cons.1 h.dis
  refine ⟨?_,?_,?_,?_⟩
  · refine ⟨hf.os.trans h.fr.os,hf.tape.trans h.fr.tape,hf.output.trans h.fr.output,Nat.le_trans h.fr.size hf.size,fun i hi hn=>?_⟩
    refine (hf.block i (Nat.lt_of_lt_of_le hi h.fr.size) ?_).trans (h.fr.block i hi hn)
    intro hib
    simp at hib;subst hib
    rcases h.own e (by simp) _ ho with h1 | h1
    · exact hn h1
    · omega
  · intro x hx
    rcases List.mem_cons.1 hx with rfl | hx
    · refine ⟨by rw [ho'];exact hp,fun c hc=>?_⟩
      rw [ho'] at hc;injection hc with hc;subst hc
      exact Nat.lt_of_lt_of_le hb hf.size
    · refine Ent.at_frame (h.hold x (by simp [hx])) hf.size fun c hc=>hf.block c ((h.hold x (by simp [hx])).2 c hc) ?_
      intro hcb;simp at hcb;subst hcb
      exact hd.1 x hx c ho hc
  · refine List.pairwise_cons.2 ⟨fun x hx c hc=>hd.1 x hx c ?_,hd.2⟩
    rw [ho'] at hc;rw [ho];exact hc
  · intro x hx c hc
    rcases List.mem_cons.1 hx with rfl | hx
    · rw [ho'] at hc;exact h.own e (by simp) c (by rw [ho];exact hc)
    · exact h.own x (by simp [hx]) c hc
def Gives (S:List Nat) (w:World) (φ:Value→List Ent→Prop):Ending→World→Prop:=
  fun e w'=>∃ v L',e = .returned v∧φ v L'∧St S w w' L'
structure Give (S:List Nat) (w:World) (L:List Ent):Prop where
  hold:∀ e∈L,e.at w
  dis:L.Pairwise Dis
  own:∀ e∈L,∀ b,e.own=some b→b∈S
theorem Give.nil (w:World):Give [] w []:=⟨by simp,.nil,by simp⟩
theorem Give.start {S:List Nat} {w:World} {L:List Ent} (h:Give S w L):St S w w L:=⟨Fr.refl S w,h.hold,h.dis,fun e he b hb=>.inl (h.own e he b hb)⟩
theorem St.after {S Sc:List Nat} {w0 w w':World} {Lc Lr L':List Ent} (h:St S w0 w (Lc++Lr)) (hS:∀ b∈Sc,∃ e∈Lc,e.own=some b) (h':St Sc w w' L'):St S w0 w' (L'++Lr):=by
  have hd:=List.pairwise_append.1 h.dis
  refine ⟨?_,?_,?_,?_⟩
  · refine ⟨h'.fr.os.trans h.fr.os,h'.fr.tape.trans h.fr.tape,h'.fr.output.trans h.fr.output,Nat.le_trans h.fr.size h'.fr.size,fun i hi hn=>?_⟩
    refine (h'.fr.block i (Nat.lt_of_lt_of_le hi h.fr.size) ?_).trans (h.fr.block i hi hn)
    intro hc
    obtain ⟨e,he,ho⟩:=hS i hc
    rcases h.own e (by simp [he]) i ho with h1 | h1
    · exact hn h1
    · omega
  · intro x hx
    rcases List.mem_append.1 hx with hx | hx
    · exact h'.hold x hx
    · have hxw:=h.hold x (by simp [hx])
      refine Ent.at_frame hxw h'.fr.size fun c hc=>h'.fr.block c (hxw.2 c hc) ?_
      intro hcs
      obtain ⟨e,he,ho⟩:=hS c hcs
      exact hd.2.2 e he x hx c ho hc
  · refine List.pairwise_append.2 ⟨h'.dis,hd.2.1,fun x hx y hy b hb hb'=>?_⟩
    rcases h'.own x hx b hb with h1 | h1
    · obtain ⟨e,he,ho⟩:=hS b h1
      exact hd.2.2 e he y hy b ho hb'
    · exact absurd ((h.hold y (by simp [hy])).2 b hb') (by omega)
  · intro x hx b hb
    rcases List.mem_append.1 hx with hx | hx
    · rcases h'.own x hx b hb with h1 | h1
      · obtain ⟨e,he,ho⟩:=hS b h1
        exact h.own e (by simp [he]) b ho
      · exact .inr (Nat.le_trans h.fr.size h1)
    · exact h.own x (by simp [hx]) b hb
theorem St.give {S Sc:List Nat} {w0 w:World} {Lc Lr:List Ent} (h:St S w0 w (Lc++Lr)) (hS:∀ e∈Lc,∀ b,e.own=some b→b∈Sc):Give Sc w Lc:=
  ⟨fun e he=>h.hold e (by simp [he]),(List.pairwise_append.1 h.dis).1,hS⟩
section
variable (P:Program) (n:Dim) (S:List Nat) (w0:World)
def J (c:Code) (Q:Post) (E:Env) (L:List Ent):Prop:=∀ a w,Rep n E a→St S w0 w L→c.wpIn (Wd n.ro) 0 P Q a w
def JX (Q:Post) (e:Exit) (E:Env) (L:List Ent):Prop:=∀ a w,Rep n E a→St S w0 w L→Q e a w
def JO (ops:Array Oper) (l:List Oper) (Q:Post) (E:Env) (L:List Ent):Prop:=∀ a w,Rep n E a→St S w0 w L→wpListIn (Wd n.ro) 0 P ops Q l a w
end
section
variable {P:Program} {n:Dim} {S:List Nat} {w0:World} {Q:Post} {E:Env} {L:List Ent}
def envOf:Nat→List Value→Env
  | _,[]=>[]
  | i,v::r=>(i,v)::envOf (i+1) r
theorem get_envOf:∀ (l:List Value) (i t:Nat) (v:Value),get (envOf i l) t=some v→i≤t∧l[t-i]? = some v
  | [],_,_,_,h=>by simp [envOf,get] at h
  | u::r,i,t,v,h=>by
    simp only [envOf,get] at h
    cases hb:Nat.beq i t
    · rw [hb] at h
      obtain ⟨h1,h2⟩:=get_envOf r (i+1) t v h
      have e:t-i=(t-(i+1))+1:=by omega
      refine ⟨by omega,?_⟩
      rw [e,List.getElem?_cons_succ];exact h2
    · rw [hb] at h
      have hk:=Nat.eq_of_beq_eq_true hb
      subst hk
      simp at h;subst h;simp
theorem calls_J {f:FuncId} {fn:Func} {c:Code} {args:Array Value} {w:World} {φ:Value→List Ent→Prop} {L0:List Ent} (S:List Nat) (n:Nat)
    (hf:P.funcs[f]? = some fn) (hb:fn.body=some c) (hm:fn.ntmps=n) (E:Env) (hE:E=envOf 0 args.toList) (hn:Nat.ble args.size n=true)
    (hg:Give S w L0) (h:J P { sz:=n } S w c (bodyPost P fn (Gives S w φ)) E L0):Calls P f args w (Gives S w φ):=by
  subst hm
  have hn:=Nat.le_of_ble_eq_true hn
  refine (callsIn_wide (n:=0)).1 (callsIn_of_wp (F:=Fence.wide) hf hb trivial (h _ w ⟨rfl,?_,?_⟩ hg.start) rfl)
  · simp;omega
  · intro t v hv
    rw [hE] at hv
    have h1:args[t]? = some v:=by have:=(get_envOf _ _ _ _ hv).2;simpa using this
    obtain ⟨hlt,h2⟩:=Array.getElem?_eq_some_iff.1 h1
    simp only [Array.getD_eq_getD_getElem?]
    rw [Array.getElem?_append_left hlt,h1]
    rfl
theorem JX_ret1 {fn:Func} {t:Nat} {φ:Value→List Ent→Prop} (v:Value) (hr:fn.results = #[.tmp t]) (hv:get E t=some v) (L':List Ent) (hL:∀ w,St S w0 w L→St S w0 w L') (hφ:φ v L') (hd:n.ds=[]:=by rfl) :
    JX n S w0 (bodyPost P fn (Gives S w0 φ)) .ret E L:=by
  intro a w hR hS
  refine ⟨hR.defers.trans hd,v,?_,v,L',rfl,hφ,hL w hS⟩
  rw [results_tmp hr,hR.val t v hv]
theorem JX_end0 {fn:Func} {φ:Value→List Ent→Prop} (hr:fn.results = #[]) (L':List Ent) (hL:∀ w,St S w0 w L→St S w0 w L') (hφ:φ (.tuple #[]) L') (hd:n.ds=[]:=by rfl) :
    JX n S w0 (bodyPost P fn (Gives S w0 φ)) .normal E L:=by
  intro a w hR hS
  exact ⟨hR.defers.trans hd,_,results_none hr _ _ _,_,L',rfl,hφ,hL w hS⟩
theorem JX_ret0 {fn:Func} {φ:Value→List Ent→Prop} (hr:fn.results = #[]) (L':List Ent) (hL:∀ w,St S w0 w L→St S w0 w L') (hφ:φ (.tuple #[]) L') (hd:n.ds=[]:=by rfl) :
    JX n S w0 (bodyPost P fn (Gives S w0 φ)) .ret E L:=by
  intro a w hR hS
  exact ⟨hR.defers.trans hd,_,results_none hr _ _ _,_,L',rfl,hφ,hL w hS⟩
def resv (P:Program) (E:Env) (w:World) (r:ResultVar) (v:Value):Prop:=
  match r with
  | .tmp t=>get E t=some v
  | .cell a t=>∃ p,get E a=some (.pointer (some p))∧(loadVar t p).run P w = .ok v w
def resAll (P:Program) (E:Env) (w:World):List ResultVar→List Value→Prop
  | [],[]=>True
  | r::rs,v::vs=>resv P E w r v∧resAll P E w rs vs
  | _,_=>False
theorem mapM_runs {w:World} (f:ResultVar→Sem Value) (hf:∀ r v,resv P E w r v→(f r).run P w = .ok v w):∀ (rs:List ResultVar) (vs:List Value),resAll P E w rs vs→Sem.run P (rs.mapM f) w = .ok vs w
  | [],[],_=>rfl
  | r::rs,v::vs,h=>by
    rw [List.mapM_cons]
    simp only [Sem.run_bind]
    rw [hf r v h.1]
    simp only [Result.andThen_ok]
    rw [mapM_runs f hf rs vs h.2]
    rfl
theorem JX_rets {fn:Func} {rs:List ResultVar} {φ:Value→List Ent→Prop} (vs:List Value) (v:Value) (hr:fn.results=rs.toArray) (hv:∀ w,St S w0 w L→resAll P E w rs vs)
    (hvv:v=(if h:vs.length=1 then vs[0] else .tuple vs.toArray)) (L':List Ent) (hL:∀ w,St S w0 w L→St S w0 w L') (hφ:φ v L') (hd:n.ds=[]:=by rfl) :
    JX n S w0 (bodyPost P fn (Gives S w0 φ)) .ret E L:=by
  intro a w hR hS
  refine ⟨hR.defers.trans hd,v,?_,v,L',rfl,hφ,hL w hS⟩
  unfold results
  rw [hr,List.mapM_toArray]
  simp only [Sem.run_bind,map_eq_pure_bind]
  rw [mapM_runs _ (fun r u h=>?_) rs vs (hv w hS)]
  rotate_left
  · cases r with
    | tmp t=>simp only [resv] at h;simp only [hR.val t u h];rfl
    | cell x t =>
      obtain ⟨p,hp,hl⟩:=h
      simp only [hR.val x _ hp]
      exact hl
  subst hvv
  simp only [Result.andThen_ok]
  by_cases h1:vs.length=1
  · simp [h1]
  · simp [h1]
theorem J_seq {c1 c2:Code} (h:J P n S w0 c1 (Exit.then (c2.wpIn (Wd n.ro) 0 P Q) Q) E L):J P n S w0 (.seq c1 c2) Q E L:=fun a w hR hS=>wpIn_seq (h a w hR hS)
theorem J_skip (h:JX n S w0 Q .normal E L):J P n S w0 .skip Q E L:=fun a w hR hS=>wpIn_skip (h a w hR hS)
theorem J_ret (h:JX n S w0 Q .ret E L):J P n S w0 .ret Q E L:=fun a w hR hS=>wpIn_ret (h a w hR hS)
theorem J_exit {id:Nat} (h:JX n S w0 Q (.exit id) E L):J P n S w0 (.exit id) Q E L:=fun a w hR hS=>wpIn_exit (h a w hR hS)
theorem J_block {id:Nat} {c:Code} (h:J P n S w0 c (Exit.inBlock id Q) E L):J P n S w0 (.block id c) Q E L:=fun a w hR hS=>wpIn_block (h a w hR hS)
theorem J_cond {x:Operand} {c1 c2:Code} (b:Bool) (hk:known E x=true) (hx:ev E x = .bool b) (h1:b=true→J P n S w0 c1 Q E L) (h2:b=false→J P n S w0 c2 Q E L) :
    J P n S w0 (.cond x c1 c2) Q E L:=fun a w hR hS =>
  wpIn_cond_split ((hR.eval hk).trans hx) (fun hb=>h1 hb a w hR hS) (fun hb=>h2 hb a w hR hS)
theorem J_region {id:Nat} {l:List Oper} (h:JO P n S w0 l.toArray l Q E L):J P n S w0 (.region id l.toArray false) Q E L:=fun a w hR hS=>wpIn_region_lit (h a w hR hS)
theorem J_weaken {c:Code} {E':Env} {L':List Ent} (hE:SubE E E') (hL:∀ w,St S w0 w L→St S w0 w L') (h:J P n S w0 c Q E' L'):J P n S w0 c Q E L:=
  fun a w hR hS=>h a w (hR.sub hE) (hL w hS)
theorem JX_block_hit {id:Nat} (h:JX n S w0 Q .normal E L):JX n S w0 (Exit.inBlock id Q) (.exit id) E L:=fun a w hR hS=>by
  show if id=id then Q .normal a w else _
  rw [if_pos rfl];exact h a w hR hS
theorem JX_block_miss {id id':Nat} (hne:Nat.beq id' id=false) (h:JX n S w0 Q (.exit id') E L):JX n S w0 (Exit.inBlock id Q) (.exit id') E L:=fun a w hR hS=>by
  show if id'=id then Q .normal a w else Q (.exit id') a w
  rw [if_neg (fun e=>by subst e;rw [Nat.beq_refl] at hne;cases hne)];exact h a w hR hS
theorem JX_weaken {e:Exit} {E':Env} {L':List Ent} (hE:SubE E E') (hL:∀ w,St S w0 w L→St S w0 w L') (h:JX n S w0 Q e E' L'):JX n S w0 Q e E L:=
  fun a w hR hS=>h a w (hR.sub hE) (hL w hS)
def Round {X:Type} (n:Dim) (S:List Nat) (w0:World) (I:X→Prop) (Ef:X→Env) (Lf:X→List Ent) (μ:X→Nat) (m:Nat) (Q:Post):Post:=
  Exit.then (fun a w=>∃ x,I x∧μ x<m∧Rep n (Ef x) a∧St S w0 w (Lf x)) Q
theorem J_loop {X:Type} {c:Code} (I:X→Prop) (Ef:X→Env) (Lf:X→List Ent) (μ:X→Nat) (x0:X) (h0:I x0) (hE:SubE E (Ef x0)) (hL:∀ w,St S w0 w L→St S w0 w (Lf x0))
    (round:∀ x,I x→J P n S w0 c (Round n S w0 I Ef Lf μ (μ x) Q) (Ef x) (Lf x)):J P n S w0 (.loop c) Q E L:=by
  intro a w hR hS
  refine wpIn_loop_ghost (fun m a w=>∃ x,I x∧μ x=m∧Rep n (Ef x) a∧St S w0 w (Lf x)) (μ x0) ⟨x0,h0,rfl,hR.sub hE,hL w hS⟩ ?_
  rintro m a w ⟨x,hI,rfl,hR,hS⟩
  refine wpIn_mono (round x hI a w hR hS) ?_
  intro e a' w' hq
  cases e with
  | normal=>obtain ⟨x',h1,h2,h3,h4⟩:=hq;exact ⟨μ x',h2,x',h1,rfl,h3,h4⟩
  | _=>exact hq
theorem JX_round {X:Type} {I:X→Prop} {Ef:X→Env} {Lf:X→List Ent} {μ:X→Nat} {m:Nat} (x:X) (hI:I x) (hm:μ x<m) (hE:SubE E (Ef x)) (hL:∀ w,St S w0 w L→St S w0 w (Lf x)) :
    JX n S w0 (Round n S w0 I Ef Lf μ m Q) .normal E L:=fun _ w hR hS=>⟨x,hI,hm,hR.sub hE,hL w hS⟩
def Cut {X:Type} (n:Dim) (S:List Nat) (w0:World) (I:X→Prop) (Ef:X→Env) (Lf:X→List Ent) (Q:Post):Post:=
  Exit.then (fun a w=>∃ x,I x∧Rep n (Ef x) a∧St S w0 w (Lf x)) Q
theorem J_cutK {X:Type} {c:Code} {K:Act→World→Prop} (I:X→Prop) (Ef:X→Env) (Lf:X→List Ent) (h:J P n S w0 c (Cut n S w0 I Ef Lf Q) E L) (k:∀ x,I x→JX n S w0 (Exit.then K Q) .normal (Ef x) (Lf x)):J P n S w0 c (Exit.then K Q) E L:=by
  intro a w hR hS
  refine wpIn_mono (h a w hR hS) ?_
  intro e a' w' hq
  cases e with
  | normal=>obtain ⟨x,h1,h2,h3⟩:=hq;exact k x h1 a' w' h2 h3
  | _=>exact hq
theorem JX_cut {X:Type} {I:X→Prop} {Ef:X→Env} {Lf:X→List Ent} (x:X) (hI:I x) (hE:SubE E (Ef x)) (hL:∀ w,St S w0 w L→St S w0 w (Lf x)):JX n S w0 (Cut n S w0 I Ef Lf Q) .normal E L:=
  fun _ w hR hS=>⟨x,hI,hR.sub hE,hL w hS⟩
def noSel:Op→Bool
  | .select ..=>false
  | .defer ..=>false
  | _=>true
def dstOk (n:Dim):Option Nat→Bool
  | some d=>Nat.blt d n.sz
  | none=>true
def fit (n:Dim) (E:Env) (o:Oper):Bool:=dstOk n o.dst&&noSel o.op&&o.op.operands.toList.all (known E)
theorem fit_dst {o:Oper} (h:fit n E o=true):∀ d,o.dst=some d→d<n.sz:=by
  intro d hd
  simp only [fit,Bool.and_eq_true] at h
  have:=h.1.1
  rw [hd] at this
  simpa [dstOk,Nat.blt_eq] using this
theorem fit_exec {o:Oper} {a:Act} (h:fit n E o=true) (hR:Rep n E a):execOp a.eval o=execOp (ev E) o:=by
  simp only [fit,Bool.and_eq_true] at h
  refine execOp_congr o (fun cs b hc=>?_) fun x hx=>hR.eval ?_
  · have:=h.1.2;rw [hc] at this;cases this
  · exact List.all_eq_true.1 h.2 x (by simpa using hx)
theorem fit_nodefer {o:Oper} (h:fit n E o=true):∀ c,o.op ≠ .defer c:=fun c hc=>by
  simp only [fit,Bool.and_eq_true] at h
  have:=h.1.2;rw [hc] at this;cases this
theorem fit_sem {o:Oper} {a:Act} (h:fit n E o=true) (hR:Rep n E a) (ro:Option Nat):o.semAt ro a.eval=execOp (ev E) o:=by
  refine (Oper.semAt_eq ro _ o fun c hc=>?_).trans (fit_exec h hR)
  simp only [fit,Bool.and_eq_true] at h
  have:=h.1.2;rw [hc] at this;cases this
def gval (ops:Array Oper) (E:Env) (j:Nat):Option Bool:=
  match ((ops[j]?).bind (·.dst)) with
  | some t=>match get E t with
    | some (.bool b)=>some b
    | _=>none
  | none=>none
theorem gval_yielded {ops:Array Oper} {a:Act} {j:Nat} {b:Bool} (hR:Rep n E a) (h:gval ops E j=some b):yielded ops a.tmps j=some b:=by
  unfold gval at h
  unfold yielded
  cases ht:(ops[j]?).bind (·.dst) with
  | none=>rw [ht] at h;cases h
  | some t =>
    rw [ht] at h
    simp only at h ⊢
    cases hg:get E t with
    | none=>rw [hg] at h;cases h
    | some v =>
      rw [hg] at h
      have:=hR.val t v hg
      simp only [Array.getD_eq_getD_getElem?] at this
      cases v <;> simp at h
      subst h
      cases hx:a.tmps[t]? with
      | none=>rw [hx] at this;simp [undef] at this
      | some u=>rw [hx] at this;simp at this;subst this;simp [hx]
def wants (ops:Array Oper) (E:Env) (o:Oper):Prop:=
  match o.guard with
  | none=>True
  | some (j,b)=>∃ t,gval ops E j=some t∧t=b
def shuns (ops:Array Oper) (E:Env) (o:Oper):Prop:=
  match o.guard with
  | none=>False
  | some (j,b)=>∃ t,gval ops E j=some t∧t = !b
theorem wants_wanted {ops:Array Oper} {o:Oper} {a:Act} (hR:Rep n E a) (h:wants ops E o):Region.wanted o (yielded ops a.tmps)=true:=by
  unfold wants at h
  unfold Region.wanted
  cases hg:o.guard with
  | none=>rfl
  | some p =>
    obtain ⟨j,b⟩:=p
    rw [hg] at h
    obtain ⟨t,ht,rfl⟩:=h
    simp only [gval_yielded hR ht];simp
theorem shuns_wanted {ops:Array Oper} {o:Oper} {a:Act} (hR:Rep n E a) (h:shuns ops E o):Region.wanted o (yielded ops a.tmps)=false:=by
  unfold shuns at h
  unfold Region.wanted
  cases hg:o.guard with
  | none=>rw [hg] at h;exact h.elim
  | some p =>
    obtain ⟨j,b⟩:=p
    rw [hg] at h
    obtain ⟨t,ht,rfl⟩:=h
    simp only [gval_yielded hR ht]
    cases b <;> rfl
def OpJ (P:Program) (S:List Nat) (w0:World) (E:Env) (L:List Ent) (o:Oper) (K:Value→List Ent→Prop):Prop:=
  ∀ w,St S w0 w L → ∃ v L' w',((execOp (ev E) o).run P w = .ok (.value v) w'∨((execOp (ev E) o).run P w = .ok .skip w'∧v=undef))∧St S w0 w' L'∧K v L'
theorem OpJ.upon {o:Oper} {K:Value→List Ent→Prop} (h:OpJ P S w0 E L o K) {a:Act} {w:World} (hfit:fit n E o=true) (hR:Rep n E a) (hS:St S w0 w L) {next:Act→World→Prop} {Q:Post}
    (k:∀ v L' w',K v L'→St S w0 w' L'→next (a.put o.dst v) w'):o.wpIn (Wd n.ro) 0 P a w next Q:=by
  obtain ⟨v,L',w',hr,hS',hK⟩:=h w hS
  refine ⟨fun _ _=>trivial,?_⟩
  rw [fit_sem hfit hR]
  rcases hr with hr | ⟨hr,rfl⟩
  · rw [hr];exact k v L' w' hK hS'
  · rw [hr];exact k _ L' w' hK hS'
section
variable {ops:Array Oper} {o:Oper} {rest:List Oper}
theorem JO_op (hfit:fit n E o=true) (hw:wants ops E o) (h:OpJ P S w0 E L o fun v L'=>JO P n S w0 ops rest Q (put E o.dst v) L'):JO P n S w0 ops (o::rest) Q E L:=by
  intro a w hR hS
  unfold wpListIn
  rw [if_pos (wants_wanted hR hw)]
  exact h.upon hfit hR hS fun v L' w' hK hS'=>hK _ _ (hR.put (fit_dst hfit) v) hS'
theorem JO_read (v:Value) (hfit:fit n E o=true) (hw:wants ops E o) (hr:∀ w,St S w0 w L→(execOp (ev E) o).run P w = .ok (.value v) w) (h:JO P n S w0 ops rest Q (put E o.dst v) L):JO P n S w0 ops (o::rest) Q E L:=
  JO_op hfit hw fun w hS=>⟨v,L,w,.inl (hr w hS),hS,h⟩
theorem JO_shun (hd:dstOk n o.dst=true) (hw:shuns ops E o) (h:JO P n S w0 ops rest Q (put E o.dst undef) L):JO P n S w0 ops (o::rest) Q E L:=by
  intro a w hR hS
  unfold wpListIn
  rw [if_neg (by rw [shuns_wanted hR hw];simp)]
  refine ⟨fun _ _=>trivial,h _ _ (hR.put (fun d hd'=>?_) undef) hS⟩
  rw [hd'] at hd
  simpa [dstOk,Nat.blt_eq] using hd
def gundef (ops:Array Oper) (E:Env) (o:Oper):Prop:=
  match o.guard with
  | none=>False
  | some (j,_)=>∃ t,(ops[j]?).bind (·.dst)=some t∧get E t=some undef
theorem gundef_wanted {ops:Array Oper} {o:Oper} {a:Act} (hR:Rep n E a) (h:gundef ops E o):Region.wanted o (yielded ops a.tmps)=false:=by
  unfold gundef at h
  unfold Region.wanted
  cases hg:o.guard with
  | none=>rw [hg] at h;exact h.elim
  | some p =>
    obtain ⟨j,b⟩:=p
    rw [hg] at h
    obtain ⟨t,ht,hv⟩:=h
    have:yielded ops a.tmps j=none:=by
      unfold yielded
      rw [ht]
      have:=hR.val t undef hv
      simp only [Array.getD_eq_getD_getElem?] at this
      cases hx:a.tmps[t]? with
      | none=>simp [hx]
      | some u=>rw [hx] at this;simp at this;subst this;simp [hx,undef]
    show (yielded ops a.tmps j == some b)=false
    rw [this];rfl
theorem JO_call (Sc:List Nat) (Lc Lr:List Ent) {f:FuncId} {args:Array Value} {φ:Value→List Ent→Prop} (hfit:fit n E o=true) (hw:wants ops E o)
    (hr:∀ w,(execOp (ev E) o).run P w = .ok (.enter f args) w) (hL:∀ w,St S w0 w L→St S w0 w (Lc++Lr)) (hS:∀ b∈Sc,∃ e∈Lc,e.own=some b)
    (hc:∀ w,St S w0 w (Lc++Lr)→Calls P f args w (Gives Sc w φ)) (h:∀ v L',φ v L'→JO P n S w0 ops rest Q (put E o.dst v) (L'++Lr)):JO P n S w0 ops (o::rest) Q E L:=by
  intro a w hR hSt
  unfold wpListIn
  rw [if_pos (wants_wanted hR hw)]
  refine ⟨fun _ _=>trivial,?_⟩
  rw [fit_sem hfit hR,hr w]
  refine ⟨fun h=>(by cases h),(callsIn_wd (m:=0-1)).2 ((hc w (hL w hSt)).mono ?_)⟩
  rintro e w' ⟨v,L',rfl,hφ,hS'⟩
  exact h v L' hφ _ _ (hR.put (fit_dst hfit) v) ((hL w hSt).after hS hS')
theorem wpListIn_take {F:Fence} {Q:Post} (k:Nat):∀ (l:List Oper) (a:Act) (w:World),wpListIn F 0 P ops (Exit.then (wpListIn F 0 P ops Q (l.drop k)) Q) (l.take k) a w→wpListIn F 0 P ops Q l a w:=by
  induction k with
  | zero=>intro l a w h;simpa [wpListIn,Exit.then] using h
  | succ k ih =>
    intro l a w h
    cases l with
    | nil=>simpa [wpListIn,Exit.then] using h
    | cons o l =>
      simp only [List.take_succ_cons,List.drop_succ_cons] at h
      unfold wpListIn at h ⊢
      split
      · rename_i hw
        rw [if_pos hw] at h
        unfold Oper.wpIn at h ⊢
        refine ⟨h.1,?_⟩
        have h:=h.2
        generalize (o.semAt F.round a.eval).run P w=r at *
        cases r with
        | ok m w' =>
          cases m <;> simp only [Oper.uponIn] at h ⊢ <;>
            first
              | exact ih _ _ _ h
              | exact ⟨h.1,CallsIn.mono h.2 (fun e w'' he=>by cases e <;> first | exact ih _ _ _ he | exact he)⟩
              | exact ⟨h.1,RowsIn.mono h.2 (fun _ _ he=>ih _ _ _ he)⟩
              | exact ⟨h.1,RoundIn.mono h.2 (fun e w'' he=>by cases e <;> first | exact ih _ _ _ he | exact he)⟩
        | halt x w'=>cases x <;> simp only [Oper.uponIn] at h ⊢ <;> exact h
      · rename_i hw
        rw [if_neg hw] at h
        exact ⟨h.1,ih _ _ _ h.2⟩
theorem wpListIn_mono {F:Fence} {Q Q':Post} (hq:∀ e a w,Q e a w→Q' e a w):∀ (l:List Oper) (a:Act) (w:World),wpListIn F 0 P ops Q l a w→wpListIn F 0 P ops Q' l a w:=by
  intro l
  induction l with
  | nil=>intro a w h;exact hq _ _ _ h
  | cons o l ih =>
    intro a w h
    unfold wpListIn at h ⊢
    split
    · rename_i hw
      rw [if_pos hw] at h
      unfold Oper.wpIn at h ⊢
      refine ⟨h.1,?_⟩
      have h:=h.2
      generalize (o.semAt F.round a.eval).run P w=r at *
      cases r with
      | ok m w' =>
        cases m <;> simp only [Oper.uponIn] at h ⊢ <;>
          first
            | exact ih _ _ h
            | exact ⟨h.1,CallsIn.mono h.2 (fun e w'' he=>by
                cases e with
                | returned v=>exact ih _ _ he
                | panicked c=>exact hq _ _ _ he
                | outgrown=>obtain ⟨a1,w1,h3⟩:=he;exact ⟨a1,w1,hq _ _ _ h3⟩)⟩
            | exact ⟨h.1,RowsIn.mono h.2 (fun _ _ he=>ih _ _ he)⟩
            | exact ⟨h.1,RoundIn.mono h.2 (fun e w'' he=>by
                cases e with
                | returned v=>exact ih _ _ he
                | panicked c=>exact hq _ _ _ he
                | outgrown=>obtain ⟨a1,w1,h3⟩:=he;exact ⟨a1,w1,hq _ _ _ h3⟩)⟩
      | halt x w'=>cases x <;> simp only [Oper.uponIn] at h ⊢ <;> first | exact hq _ _ _ h | exact h
    · rename_i hw
      rw [if_neg hw] at h
      exact ⟨h.1,ih _ _ h.2⟩
theorem JO_weaken {l:List Oper} {E':Env} {L':List Ent} (hE:SubE E E') (hL:∀ w,St S w0 w L→St S w0 w L') (h:JO P n S w0 ops l Q E' L'):JO P n S w0 ops l Q E L:=
  fun a w hR hS=>h a w (hR.sub hE) (hL w hS)
end
def wpAnyG (ro:Option Nat) (P:Program) (ops:Array Oper) (Q:Post) (G:Array Bool→World→Prop):Nat→Array Bool→Act→World→Prop
  | 0,listed,a,w=>G listed w∧Region.ready .any ops listed=[]∧Q .normal a w
  | fuel+1,listed,a,w=>G listed w∧(Region.ready .any ops listed=[]→Q .normal a w) ∧
      ∀ i∈Region.ready .any ops listed,wpOpIn (Wd ro) 0 P ops Q i (wpAnyG ro P ops Q G fuel (listed.setIfInBounds i true)) a w
theorem wpAnyG_any {ro:Option Nat} {ops:Array Oper} {G:Array Bool→World→Prop} : ∀ (fuel:Nat) (listed:Array Bool) (a:Act) (w:World),wpAnyG ro P ops Q G fuel listed a w→wpAnyIn (Wd ro) 0 P .any ops Q fuel listed a w:=by
  intro fuel
  induction fuel with
  | zero=>intro listed a w h;exact h.2
  | succ fuel ih=>intro listed a w h;exact ⟨h.2.1,fun i hi=>wpOpIn_mono (fun a w=>ih _ a w) (h.2.2 i hi)⟩
def Closed (ops:Array Oper) (listed:Array Bool):Prop:=
  listed.size=ops.size ∧ ∀ j o,ops[j]? = some o→listed.getD j true=true → ∀ e∈o.after,Region.binds .any e=true→listed.getD e.on false=true
theorem Closed.add {ops:Array Oper} {listed:Array Bool} (h:Closed ops listed) {i:Nat} (hi:i∈Region.ready .any ops listed):Closed ops (listed.setIfInBounds i true):=by
  refine ⟨by simpa using h.1,fun j o hj hl e he hb=>?_⟩
  by_cases hji:i=j
  · subst hji
    obtain ⟨_,o',ho',hall⟩:=mem_ready.1 hi
    rw [hj] at ho'
    injection ho' with ho';subst ho'
    exact getD_set_true (hall e he hb)
  · rw [getD_set_ne true hji] at hl
    exact getD_set_true (h.2 j o hj hl e he hb)
theorem Closed.none (ops:Array Oper):Closed ops (Array.replicate ops.size false):=by
  refine ⟨by simp,fun j o hj hl=>?_⟩
  have:j<ops.size:=(Array.getElem?_eq_some_iff.1 hj).1
  simp [this] at hl
def YieldsG (P:Program) (ops:Array Oper) (G:World→Prop) (o:Oper) (v:Value) (a:Act):Prop:=
  (Region.wanted o (yielded ops a.tmps)=true∧(∀ c,o.op ≠ .defer c) ∧ ∀ w,G w→(execOp a.eval o).run P w = .ok (.value v) w) ∨
  (Region.wanted o (yielded ops a.tmps)=false∧v=undef)
theorem YieldsG.wpOp {ro:Option Nat} {ops:Array Oper} {G:World→Prop} {i:Nat} {o:Oper} {v:Value} {a:Act} (hi:ops[i]? = some o) (hy:YieldsG P ops G o v a)
    {K:Act→World→Prop} {w:World} (hG:G w) (h:K (a.put o.dst v) w):wpOpIn (Wd ro) 0 P ops Q i K a w:=by
  unfold Go.wpOpIn
  simp only [hi]
  rcases hy with ⟨hw,hd,hv⟩ | ⟨hw,rfl⟩
  · simp only [hw,if_true]
    refine ⟨fun _ _=>trivial,?_⟩
    rw [Oper.semAt_eq _ _ _ hd,hv w hG];exact h
  · simp only [hw,Bool.false_eq_true,if_false];exact ⟨fun _ _=>trivial,h⟩
theorem YieldsG.of_same {ops:Array Oper} {G:World→Prop} {o:Oper} {v:Value} {a a':Act} (hy:YieldsG P ops G o v a) (he:execOp a'.eval o=execOp a.eval o)
    (hw:Region.wanted o (yielded ops a'.tmps)=Region.wanted o (yielded ops a.tmps)):YieldsG P ops G o v a':=by
  unfold YieldsG at *
  rw [he,hw]
  exact hy
theorem semAt_put {ro:Option Nat} (o:Oper) (hs:∀ cs b,o.op ≠ .select cs b) (a:Act) (dst:Option Tmp) (v:Value) {ops:Array Oper} (h:∀ d,dst=some d→d∉o.looksAt ops) :
    o.semAt ro (a.put dst v).eval=o.semAt ro a.eval:=by
  cases ro with
  | none=>exact execOp_put o hs a dst v h
  | some l =>
    by_cases hd:∃ c,o.op = .defer c
    · obtain ⟨c,hc⟩:=hd
      unfold Oper.semAt
      simp only [hc]
      have e:=resolve_congr (ρ:=(a.put dst v).eval) (ρ':=a.eval) c o.type (fun x hx=>Act.eval_put fun d hd hxd=>h d hd (by
        subst hxd
        exact List.mem_append_left _ (List.mem_filterMap.2 ⟨.tmp d,by rw [hc];simpa [Op.operands] using hx,rfl⟩)))
      rw [e]
    · have hd':∀ c,o.op ≠ .defer c:=fun c hc=>hd ⟨c,hc⟩
      rw [Oper.semAt_eq _ _ _ hd',Oper.semAt_eq _ _ _ hd']
      exact execOp_put o hs a dst v h
theorem wpOp_putG {ro:Option Nat} {ops:Array Oper} {G:World→Prop} {j:Nat} {oi oj:Oper} {v:Value} (hj:ops[j]? = some oj) (hap:oi.apart ops oj=true)
    (hsi:∀ cs b,oi.op ≠ .select cs b) (hsj:∀ cs b,oj.op ≠ .select cs b)
    (hQ:∀ c a w,Q (.panic c) (a.put oi.dst v) w→Q (.panic c) a w) {K:Act→World→Prop} {a:Act} {w:World}
    (hy:YieldsG P ops G oi v a) (h:wpOpIn (Wd ro) 0 P ops Q j K (a.put oi.dst v) w) :
    wpOpIn (Wd ro) 0 P ops Q j (fun a' w'=>YieldsG P ops G oi v a'∧K (a'.put oi.dst v) w') a w:=by
  obtain ⟨h1,h2,h3⟩:=Oper.apart_spec hap
  have keep:∀ (a:Act),YieldsG P ops G oi v a → ∀ u,YieldsG P ops G oi v (a.put oj.dst u):=fun a hy u =>
    hy.of_same (execOp_put oi hsi a oj.dst u h3) (wanted_put oi a oj.dst u h3)
  have keepD:∀ d,YieldsG P ops G oi v { a with defers:=d::a.defers }:=fun d=>hy.of_same rfl rfl
  unfold wpOpIn at *
  simp only [hj] at *
  rw [wanted_put oj a oi.dst v h1] at h
  split
  · rename_i hw
    simp only [hw,if_true] at h
    refine ⟨fun _ _=>trivial,?_⟩
    have h:=h.2
    rw [semAt_put oj hsj a oi.dst v h1] at h
    generalize (oj.semAt (Wd ro).round a.eval).run P w=r at *
    cases r with
    | ok m w' =>
      cases m <;> simp only [Oper.uponIn] at h ⊢
      case value u=>exact ⟨keep a hy u,by rw [← Act.put_comm a v u h2];exact h⟩
      case skip=>exact ⟨keep a hy _,by rw [← Act.put_comm a v undef h2];exact h⟩
      case defer d =>
        refine ⟨keep _ (keepD d) _,?_⟩
        rw [← Act.put_comm _ v undef h2,← Act.put_defers]
        exact h
      case enter f args =>
        refine ⟨h.1,CallsIn.mono h.2 fun e w'' he=>?_⟩
        cases e with
        | returned u=>exact ⟨keep a hy u,by rw [← Act.put_comm a v u h2];exact he⟩
        | panicked c=>exact hQ _ _ _ he
        | outgrown=>exact he
      case row row args=>exact ⟨h.1,RowsIn.mono h.2 fun u w'' he=>⟨keep a hy u,by rw [← Act.put_comm a v u h2];exact he⟩⟩
      case round =>
        refine ⟨h.1,RoundIn.mono h.2 fun e w'' he=>?_⟩
        cases e with
        | returned u=>exact ⟨keep a hy u,by rw [← Act.put_comm a v u h2];exact he⟩
        | panicked c=>exact hQ _ _ _ he
        | outgrown=>exact he
    | halt x w' =>
      cases x <;> simp only [Oper.uponIn] at h ⊢
      case panic u=>exact hQ _ _ _ h
  · rename_i hw
    simp only [hw] at h
    exact ⟨fun _ _=>trivial,keep a hy _,by rw [← Act.put_comm a v undef h2];exact h.2⟩
theorem wpAnyG_first {ro:Option Nat} {ops:Array Oper} {G:Array Bool→World→Prop} {H:World→Prop} {i:Nat} {oi:Oper} {v:Value} (hi:ops[i]? = some oi) (hsel:∀ (j:Nat) (o:Oper) cs b,ops[j]? = some o→o.op ≠ .select cs b)
    (hQ:∀ c a w,Q (.panic c) (a.put oi.dst v) w→Q (.panic c) a w)
    (hGH:∀ listed w,Closed ops listed→listed.getD i true=false→G (listed.setIfInBounds i true) w→H w)
    (hGG:∀ listed w,Closed ops listed→listed.getD i true=false→G (listed.setIfInBounds i true) w→G listed w) :
    ∀ (fuel:Nat) (listed:Array Bool) (a:Act) (w:World),Closed ops listed →
      (∀ j oj,ops[j]? = some oj→j≠i→listed.getD j true=false→(∀ e∈oj.after,Region.binds .any e=true→e.on≠i)→oi.apart ops oj=true) →
      i∈Region.ready .any ops listed→YieldsG P ops H oi v a →
      wpAnyG ro P ops Q G fuel (listed.setIfInBounds i true) (a.put oi.dst v) w→wpAnyG ro P ops Q G (fuel+1) listed a w:=by
  intro fuel
  induction fuel with
  | zero =>
    intro listed a w hcl _ hr hy K
    have hun:=(mem_ready.1 hr).1
    refine ⟨hGG _ _ hcl hun K.1,fun h=>(by rw [h] at hr;cases hr),fun j hj=>?_⟩
    by_cases hji:j=i
    · subst hji;exact hy.wpOp hi (hGH _ _ hcl hun K.1) K
    · have:=ready_mono hj hji
      rw [K.2.1] at this
      cases this
  | succ fuel ih =>
    intro listed a w hcl hfree hr hy K
    have hun:=(mem_ready.1 hr).1
    refine ⟨hGG _ _ hcl hun K.1,fun h=>(by rw [h] at hr;cases hr),fun j hj=>?_⟩
    by_cases hji:j=i
    · subst hji;exact hy.wpOp hi (hGH _ _ hcl hun K.1) K
    · have h1:=K.2.2 j (ready_mono hj hji)
      obtain ⟨hjun,oj,hoj,hall⟩:=mem_ready.1 hj
      have hnot:∀ e∈oj.after,Region.binds .any e=true→e.on≠i:=fun e he hb heq=>by
        have h1:=hall e he hb
        have h0:=(mem_ready.1 hr).1
        rw [heq] at h1
        rcases Nat.lt_or_ge i listed.size with h' | h'
        · simp [h'] at h0 h1;rw [h0] at h1;cases h1
        · simp [Array.getElem?_eq_none h'] at h1
      have h2:=wpOp_putG hoj (hfree j oj hoj hji hjun hnot) (fun cs b=>hsel i oi cs b hi) (fun cs b=>hsel j oj cs b hoj) hQ hy h1
      have hfree':∀ k ok,ops[k]? = some ok→k≠i→(listed.setIfInBounds j true).getD k true=false →
          (∀ e∈ok.after,Region.binds .any e=true→e.on≠i)→oi.apart ops ok=true:=fun k ok hk hki hun hno=>by
        refine hfree k ok hk hki ?_ hno
        by_cases hjk:j=k
        · subst hjk;exact hjun
        · rw [getD_set_ne true hjk] at hun;exact hun
      refine wpOpIn_mono (fun a' w' h3=>ih (listed.setIfInBounds j true) a' w' (hcl.add hj) hfree' (ready_mono hr (Ne.symm hji)) h3.1 ?_) h2
      rw [Array.setIfInBounds_comm _ _ hji]
      exact h3.2
def GL (S:List Nat) (w0:World) (Lg:List Ent) (us:List Nat) (Lu:List Ent) (listed:Array Bool) (w:World):Prop:=
  St S w0 w Lg∧((us.all fun u=>!listed.getD u true)=true→St S w0 w Lu)
def JA (P:Program) (n:Dim) (S:List Nat) (w0:World) (ops:Array Oper) (Q:Post) (Lg:List Ent) (us:List Nat) (Lu:List Ent) (fuel:Nat) (listed:Array Bool) (E:Env) (L:List Ent):Prop:=
  ∀ a w,Rep n E a→St S w0 w L→Closed ops listed→wpAnyG n.ro P ops Q (GL S w0 Lg us Lu) fuel listed a w
theorem J_draw {id:Nat} {l:List Oper} (Lg:List Ent) (us:List Nat) (Lu:List Ent) (m:Nat) (hm:P.follows .mixedOrders=true) (hl:l.length=m)
    (h:JA P n S w0 l.toArray Q Lg us Lu m (Array.replicate m false) E L):J P n S w0 (.region id l.toArray true) Q E L:=by
  subst hl
  intro a w hR hS
  refine wpIn_region_any hm (wpAnyG_any (G:=GL S w0 Lg us Lu) _ _ _ _ ?_)
  have:=h a _ hR (hS.step (Fr.drew [] w)) (by have:=Closed.none l.toArray;simpa using this)
  simpa using this
section
variable {ops:Array Oper} {Lg Lu:List Ent} {us:List Nat} {fuel:Nat} {listed:Array Bool}
theorem JA_done (hr:Region.ready .any ops listed=[]) (hL:∀ w,St S w0 w L→GL S w0 Lg us Lu listed w) (h:JX n S w0 Q .normal E L):JA P n S w0 ops Q Lg us Lu fuel listed E L:=by
  intro a w hR hS _
  cases fuel with
  | zero=>exact ⟨hL w hS,hr,h a w hR hS⟩
  | succ k=>exact ⟨hL w hS,fun _=>h a w hR hS,by rw [hr];simp⟩
theorem all_unset {us:List Nat} {listed:Array Bool} {i:Nat} (hi:us.contains i=false):(us.all fun u=>!(listed.setIfInBounds i true).getD u true)=(us.all fun u=>!listed.getD u true):=by
  rw [Bool.eq_iff_iff,List.all_eq_true,List.all_eq_true]
  constructor <;> intro h u hu <;> have:=h u hu
  · rw [getD_set_ne true (by rintro rfl;simp at hi;exact hi hu)] at this;exact this
  · rw [getD_set_ne true (by rintro rfl;simp at hi;exact hi hu)];exact this
theorem JA_take (i:Nat) {o:Oper} (v:Value) (hi:ops[i]? = some o) (hs:Region.noSelect ops=true) (hf:Region.free .any ops listed i=true) (hr:(Region.ready .any ops listed).contains i=true) (hu:us.contains i=false)
    (hQ:∀ c a w,Q (.panic c) (a.put o.dst v) w→Q (.panic c) a w) (hfit:fit n E o=true) (hw:wants ops E o) (hv:∀ w,St S w0 w Lg→(execOp (ev E) o).run P w = .ok (.value v) w)
    (h:JA P n S w0 ops Q Lg us Lu fuel (listed.setIfInBounds i true) (put E o.dst v) L):JA P n S w0 ops Q Lg us Lu (fuel+1) listed E L:=by
  intro a w hR hS hcl
  have hr':i∈Region.ready .any ops listed:=by simpa using hr
  refine wpAnyG_first (H:=fun w=>St S w0 w Lg) hi (Region.noSelect_spec hs) hQ (fun _ _ _ _ h=>h.1) (fun l w _ hl h=>⟨h.1,fun hh=>h.2 (by rw [all_unset hu];exact hh)⟩) fuel listed a w hcl (Region.free_spec hi hf) hr' (.inl ⟨wants_wanted hR hw,fit_nodefer hfit,fun w' hG=>?_⟩) (h _ w (hR.put (fit_dst hfit) v) hS (hcl.add hr'))
  rw [fit_exec hfit hR];exact hv w' hG
theorem JA_early (i:Nat) {o:Oper} (v:Value) (hi:ops[i]? = some o) (hs:Region.noSelect ops=true) (hf:Region.free .any ops listed i=true) (hr:(Region.ready .any ops listed).contains i=true) (hu:us.contains i=false)
    (hlate:(us.all fun u=>match ops[u]? with | some x=>x.after.any (fun e=>Region.binds .any e&&e.on == i) | none=>false)=true)
    (hQ:∀ c a w,Q (.panic c) (a.put o.dst v) w→Q (.panic c) a w) (hfit:fit n E o=true) (hw:wants ops E o) (hv:∀ w,St S w0 w Lu→(execOp (ev E) o).run P w = .ok (.value v) w)
    (h:JA P n S w0 ops Q Lg us Lu fuel (listed.setIfInBounds i true) (put E o.dst v) L):JA P n S w0 ops Q Lg us Lu (fuel+1) listed E L:=by
  intro a w hR hS hcl
  have hr':i∈Region.ready .any ops listed:=by simpa using hr
  have hnone:∀ l:Array Bool,Closed ops l→l.getD i true=false→(us.all fun u=>!l.getD u true)=true:=by
    intro l hl hun
    rw [List.all_eq_true] at hlate ⊢
    intro u hu'
    have h1:=hlate u hu'
    cases hx:ops[u]? with
    | none=>rw [hx] at h1;cases h1
    | some x =>
      rw [hx] at h1
      obtain ⟨e,he,hb⟩:=Array.any_eq_true'.1 h1
      simp only [Bool.and_eq_true,beq_iff_eq] at hb
      cases hc:l.getD u true with
      | false=>rfl
      | true =>
        have h2:=hl.2 u x hx hc e he hb.1
        rw [hb.2] at h2
        exfalso
        rcases Nat.lt_or_ge i l.size with h' | h'
        · simp [h'] at hun h2;rw [hun] at h2;cases h2
        · simp [Array.getElem?_eq_none h'] at h2
  refine wpAnyG_first (H:=fun w=>St S w0 w Lu) hi (Region.noSelect_spec hs) hQ
    (fun l w hc hl h=>h.2 (by rw [all_unset hu];exact hnone l hc hl)) (fun l w _ hl h=>⟨h.1,fun hh=>h.2 (by rw [all_unset hu];exact hh)⟩) fuel listed a w hcl (Region.free_spec hi hf) hr' (.inl ⟨wants_wanted hR hw,fit_nodefer hfit,fun w' hG=>?_⟩) (h _ w (hR.put (fit_dst hfit) v) hS (hcl.add hr'))
  rw [fit_exec hfit hR];exact hv w' hG
theorem JA_shun (i:Nat) {o:Oper} (hi:ops[i]? = some o) (hs:Region.noSelect ops=true) (hf:Region.free .any ops listed i=true) (hr:(Region.ready .any ops listed).contains i=true) (hu:us.contains i=false)
    (hQ:∀ c a w,Q (.panic c) (a.put o.dst undef) w→Q (.panic c) a w) (hd:dstOk n o.dst=true) (hw:shuns ops E o)
    (h:JA P n S w0 ops Q Lg us Lu fuel (listed.setIfInBounds i true) (put E o.dst undef) L):JA P n S w0 ops Q Lg us Lu (fuel+1) listed E L:=by
  intro a w hR hS hcl
  have hr':i∈Region.ready .any ops listed:=by simpa using hr
  refine wpAnyG_first (H:=fun _=>True) hi (Region.noSelect_spec hs) hQ (fun _ _ _ _ _=>trivial) (fun l w _ hl h=>⟨h.1,fun hh=>h.2 (by rw [all_unset hu];exact hh)⟩) fuel listed a w hcl (Region.free_spec hi hf) hr' (.inr ⟨shuns_wanted hR hw,rfl⟩) (h _ w (hR.put (fun d hd'=>?_) undef) hS (hcl.add hr'))
  rw [hd'] at hd
  simpa [dstOk,Nat.blt_eq] using hd
def JI (P:Program) (n:Dim) (S:List Nat) (w0:World) (ops:Array Oper) (Q:Post) (Lg:List Ent) (us:List Nat) (Lu:List Ent) (fuel:Nat) (listed:Array Bool) (E:Env) (L:List Ent) (i:Nat):Prop:=
  ∀ a w,Rep n E a→St S w0 w L→Closed ops (listed.setIfInBounds i true)→wpOpIn (Wd n.ro) 0 P ops Q i (wpAnyG n.ro P ops Q (GL S w0 Lg us Lu) fuel (listed.setIfInBounds i true)) a w
theorem JA_ready {rs:List Nat} (hr:Region.ready .any ops listed=rs) (hne:rs≠[]) (hL:∀ w,St S w0 w L→GL S w0 Lg us Lu listed w) (h:∀ i∈rs,JI P n S w0 ops Q Lg us Lu fuel listed E L i):JA P n S w0 ops Q Lg us Lu (fuel+1) listed E L:=
  fun a w hR hS hcl=>⟨hL w hS,fun h0=>absurd (hr ▸ h0) hne,fun i hi=>h i (hr ▸ hi) a w hR hS (hcl.add hi)⟩
theorem JA_one (i:Nat) (hr:Region.ready .any ops listed=[i]) (hL:∀ w,St S w0 w L→GL S w0 Lg us Lu listed w) (h:JI P n S w0 ops Q Lg us Lu fuel listed E L i):JA P n S w0 ops Q Lg us Lu (fuel+1) listed E L:=
  JA_ready hr (by simp) hL fun j hj=>by simp at hj;subst hj;exact h
theorem JA_finX {X:Type} (Ef:X→Env) (Lf:X→List Ent) (h:∀ x,JX n S w0 Q .normal (Ef x) (Lf x)) (k:(∀ x,JX n S w0 Q .normal (Ef x) (Lf x))→JA P n S w0 ops Q Lg us Lu fuel listed E L):JA P n S w0 ops Q Lg us Lu fuel listed E L:=k h
theorem JI_op {i:Nat} {o:Oper} (hi:ops[i]? = some o) (hfit:fit n E o=true) (hw:wants ops E o)
    (h:OpJ P S w0 E L o fun v L'=>JA P n S w0 ops Q Lg us Lu fuel (listed.setIfInBounds i true) (put E o.dst v) L'):JI P n S w0 ops Q Lg us Lu fuel listed E L i:=by
  intro a w hR hS hcl
  unfold wpOpIn
  rw [hi]
  simp only [wants_wanted hR hw,if_true]
  exact (h.upon hfit hR hS fun v L' w' hK hS'=>hK _ _ (hR.put (fit_dst hfit) v) hS' hcl)
theorem JI_call {i:Nat} {o:Oper} (Sc:List Nat) (Lc Lr:List Ent) {f:FuncId} {args:Array Value} {φ:Value→List Ent→Prop} (hi:ops[i]? = some o) (hfit:fit n E o=true) (hw:wants ops E o)
    (hr:∀ w,(execOp (ev E) o).run P w = .ok (.enter f args) w) (hL:∀ w,St S w0 w L→St S w0 w (Lc++Lr)) (hS:∀ b∈Sc,∃ e∈Lc,e.own=some b)
    (hc:∀ w,St S w0 w (Lc++Lr)→Calls P f args w (Gives Sc w φ))
    (h:∀ v L',φ v L'→JA P n S w0 ops Q Lg us Lu fuel (listed.setIfInBounds i true) (put E o.dst v) (L'++Lr)):JI P n S w0 ops Q Lg us Lu fuel listed E L i:=by
  intro a w hR hSt hcl
  unfold wpOpIn
  rw [hi]
  simp only [wants_wanted hR hw,if_true]
  refine ⟨fun _ _=>trivial,?_⟩
  rw [fit_sem hfit hR,hr w]
  refine ⟨fun h=>(by cases h),(callsIn_wd (m:=0-1)).2 ((hc w (hL w hSt)).mono ?_)⟩
  rintro e w' ⟨v,L',rfl,hφ,hS'⟩
  exact h v L' hφ _ _ (hR.put (fit_dst hfit) v) ((hL w hSt).after hS hS') hcl
theorem JA_weaken {E':Env} {L':List Ent} (hE:SubE E E') (hL:∀ w,St S w0 w L→St S w0 w L') (h:JA P n S w0 ops Q Lg us Lu fuel listed E' L'):JA P n S w0 ops Q Lg us Lu fuel listed E L:=
  fun a w hR hS=>h a w (hR.sub hE) (hL w hS)
end
end
end Go.GV
