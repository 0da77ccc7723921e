/- GvY, GvZ, GvLt, GvKp, St45, Op45 in one text. -/
import Derived.Test.YtggobegaiijhhaaGreatDoorUtilityOnly5
import Derived.RangeFuncRecord
set_option linter.unusedVariables false
set_option linter.unusedSimpArgs false
namespace Go.GV
open Go.RowKit
def Ent.obj (b:Nat) (o:Obj):Ent:=⟨some b,fun x=>x=some o⟩
def mark (D:Nat):Deferred:={ target:=.collected D,args:=#[] }
abbrev dfr (D:Nat):Ent:=Ent.obj D (.deferred (some []))
abbrev lp (r:Loop) (s:LoopState):Obj:=.loop { r with state:=s,pending:=none }
def Old (S:List Nat) (w0:World) (S2:List Nat) (w2:World):Prop:=∀ i,i<w0.heap.size→i∉S→i<w2.heap.size∧i∉S2∧w2.heap[i]? = w0.heap[i]?
theorem Old.trans {S1 S2 S3:List Nat} {w1 w2 w3:World} (h:Old S1 w1 S2 w2) (k:Old S2 w2 S3 w3):Old S1 w1 S3 w3:=fun i hi hs=>by
  obtain ⟨h1,h2,h3⟩:=h i hi hs
  obtain ⟨k1,k2,k3⟩:=k i h1 h2
  exact ⟨k1,k2,k3.trans h3⟩
theorem Old.of_st {S Sc:List Nat} {w0 w:World} {Lc Lr:List Ent} (hS:St S w0 w (Lc++Lr)) (hSc:∀ b∈Sc,∃ e∈Lc,e.own=some b):Old S w0 Sc w:=fun i hi hs=>by
  refine ⟨Nat.lt_of_lt_of_le hi hS.fr.size,fun hc=>?_,hS.fr.block i hi hs⟩
  obtain ⟨e,he,ho⟩:=hSc _ hc
  rcases hS.own e (List.mem_append_left _ he) _ ho with h4 | h4
  · exact hs h4
  · omega
theorem RO.old {S S2:List Nat} {w0 w2:World} {A:Option Addr} {cs:List Value} (h:RO S w0 A cs) (ho:Old S w0 S2 w2):RO S2 w2 A cs:=fun j v hv=>by
  obtain ⟨a,ha,hb,hn,hc⟩:=h j v hv
  obtain ⟨h1,h2,h3⟩:=ho _ hb hn
  refine ⟨a,ha,h1,h2,?_⟩
  rw [← hc]
  exact World.cell?_of_block (by rw [add_block];exact h3)
section
variable {P:Program} {n:Dim} {S:List Nat} {w0 w:World} {Q:Post} {E:Env} {L:List Ent}
theorem fr_putObj (w:World) (b:Nat) (o:Obj):Fr [b] w (w.putObj b o):=⟨rfl,rfl,rfl,by simp,fun i _ hn=>World.putObj_heap_other (fun e=>hn (by simp [e]))⟩
theorem obj_at {b:Nat} {o:Obj} (h:(Ent.obj b o).at w):w.heap[b]? = some o:=h.1
theorem St.putObj {b:Nat} {o:Obj} (h:St S w0 w (Ent.obj b o::L)) (o':Obj):St S w0 (w.putObj b o') (Ent.obj b o'::L):=
  h.write b rfl rfl (fr_putObj w b o') (World.putObj_heap_same ((h.hold _ List.mem_cons_self).2 b rfl))
theorem St.allocObj (h:St S w0 w L) (o:Obj):St S w0 (w.alloc o) (Ent.obj w.heap.size o::L):=h.alloc o _ rfl rfl
theorem St.togive (h:St S w0 w L):Give (Lown L) w L:=⟨h.hold,h.dis,fun e he b hb=>lown_in e he b hb⟩
def YieldOk (P:Program) (l:Nat) (S:List Nat) (w0:World) {α X:Type} (enc:α→List Value) (I:List α→X→Prop) (Lf:List α→X→List Ent) (xs:List α):Prop:=
  ∀ pre a rest st (Lo:List Ent) (w:World),xs=pre++a::rest→I pre st→St S w0 w (Lo++Lf pre st) →
    ∃ fn tmps assign body,(∀ vs,vs=enc a→(Instr.yield l vs.toArray).run P w = .ok (.round l fn tmps assign body) w) ∧
      RoundIn Fence.wide 0 P l fn tmps assign body w fun e w'=>e = .returned (.bool true) ∧ ∃ st',I (pre++[a]) st'∧St S w0 w' (Lo++Lf (pre++[a]) st')
theorem x_yield {x:Operand} {dst:Option Nat} {ty:TypeId} {pos:String} {af:Array Edge} {g:Option (Nat × Bool)} {l:Nat} {os:List Operand} {vs:List Value} {ts:Array TypeId} {r:Next} (hx:ev E x = .func (.yield l) #[] #[]) (ha:os.map (ev E)=vs) (hy:(Instr.yield l vs.toArray).run P w = .ok r w) :
    (execOp (ev E) ⟨dst,.call ⟨.value x,os.toArray,ts⟩,ty,pos,af,g⟩).run P w = .ok r w:=by
  subst ha
  simp only [execOp,resolve,List.map_toArray,hx,Deferred.ofValue,Sem.run_bind,Sem.run_pure,Result.andThen_ok,invoke,List.append_toArray]
  simpa using hy
section
variable {ops:Array Oper} {rest:List Oper}
theorem JO_yield {x:Operand} {dst:Option Nat} {ty:TypeId} {pos:String} {af:Array Edge} {g:Option (Nat × Bool)} {l:Nat} {os:List Operand} {ts:Array TypeId} {α X:Type} {enc:α→List Value} {I:List α→X→Prop} {Lf:List α→X→List Ent} {xs:List α}
    (hY:YieldOk P l S w0 enc I Lf xs) {pre:List α} {a:α} {ys:List α} {st:X} (hp:xs=pre++a::ys) (hI:I pre st) (Lo:List Ent)
    (hfit:fit n E ⟨dst,.call ⟨.value x,os.toArray,ts⟩,ty,pos,af,g⟩=true) (hw:wants ops E ⟨dst,.call ⟨.value x,os.toArray,ts⟩,ty,pos,af,g⟩)
    (hx:ev E x = .func (.yield l) #[] #[]) (ha:os.map (ev E)=enc a) (hL:∀ w,St S w0 w L→St S w0 w (Lo++Lf pre st))
    (h:∀ st',I (pre++[a]) st'→JO P n S w0 ops rest Q (put E dst (vB true)) (Lo++Lf (pre++[a]) st')):JO P n S w0 ops (⟨dst,.call ⟨.value x,os.toArray,ts⟩,ty,pos,af,g⟩::rest) Q E L:=by
  intro act w hR hS
  obtain ⟨fn,tmps,assign,body,hy,hround⟩:=hY pre a ys st Lo w hp hI (hL w hS)
  unfold wpListIn
  rw [if_pos (wants_wanted hR hw)]
  refine ⟨fun _ _=>trivial,?_⟩
  rw [fit_sem hfit hR,x_yield hx rfl (hy _ ha)]
  refine ⟨fun h=>(by cases h),RoundIn.mono (F:=Wd n.ro) hround ?_⟩
  rintro e w' ⟨rfl,st',hI',hS'⟩
  exact h st' hI' _ _ (hR.put (fit_dst hfit) _) hS'
end
theorem JX_begin {l:Nat} {r:Loop} {body:Code} {RR:Ending→World→Prop}
    (h:J P n S w0 body (roundPost P l RR) E (Ent.obj l (lp r .busy)::L)) :
    JX n S w0 (Exit.then (fun a₁ w₁=>∃ w₂,(Instr.beginRound l).run P w₁ = .ok () w₂∧body.wpIn (Wd n.ro) 0 P (roundPost P l RR) a₁ w₂) (fun _ _ _=>False)) .normal E (Ent.obj l (lp r .ready)::L):=by
  intro a w hR hS
  exact ⟨_,run_beginRound (obj_at (hS.hold _ List.mem_cons_self)) rfl,h a _ hR (hS.putObj _)⟩
theorem JX_end {l:Nat} {r:Loop} {RR:Ending→World→Prop} (L':List Ent) (hL:∀ w,St S w0 w L→St S w0 w (Ent.obj l (lp r .busy)::L')) (hRR:∀ w,St S w0 w (Ent.obj l (lp r .ready)::L')→RR (.returned (.bool true)) w) :
    JX n S w0 (roundPost P l RR) .normal E L:=by
  intro a w hR hS
  have hS':=hL w hS
  exact ⟨_,_,run_endRound none (obj_at (hS'.hold _ List.mem_cons_self)),hRR _ (hS'.putObj _)⟩
theorem foldl_rep:∀ (ps:List Nat) (vs:List Value) (tmps:Array Value) (E:Env) (m:Nat),tmps.size=m→(∀ p∈ps,p<m)→(∀ t v,get E t=some v→tmps.getD t undef=v) →
    ((ps.zip vs).foldl (fun t (p:Nat × Value)=>t.setIfInBounds p.1 p.2) tmps).size=m ∧ ∀ t v,get ((ps.zip vs).reverse++E) t=some v→((ps.zip vs).foldl (fun t (p:Nat × Value)=>t.setIfInBounds p.1 p.2) tmps).getD t undef=v
  | [],_,tmps,E,m,hs,_,hv=>⟨hs,hv⟩
  | p::ps,[],tmps,E,m,hs,_,hv=>⟨hs,hv⟩
  | p::ps,u::vs,tmps,E,m,hs,hp,hv=>by
    have ih:=foldl_rep ps vs (tmps.setIfInBounds p u) ((p,u)::E) m (by simp [hs]) (fun q hq=>hp q (List.mem_cons_of_mem _ hq)) (fun t v ht=>by
      simp only [get] at ht
      cases hb:Nat.beq p t with
      | true =>
        have:=Nat.eq_of_beq_eq_true hb;subst this
        rw [hb] at ht;simp at ht;subst ht
        have:=hp p List.mem_cons_self
        simp [hs,this]
      | false =>
        rw [hb] at ht
        have hne:p≠t:=fun e=>by subst e;rw [Nat.beq_refl] at hb;cases hb
        have:=hv t v ht
        simpa [Array.getElem?_setIfInBounds_ne hne] using this)
    rw [List.zip_cons_cons,List.foldl_cons,List.reverse_cons,List.append_assoc]
    exact ih
abbrev LF {α X:Type} (l D:Nat) (r:Loop) (Lf:List α→X→List Ent) (pre:List α) (st:X):List Ent:=Ent.obj l (lp r .ready)::dfr D::Lf pre st
def RR {α X:Type} (l D:Nat) (r:Loop) (I:List α→X→Prop) (Lf:List α→X→List Ent) (S:List Nat) (w0:World) (pre:List α):Ending→World→Prop:=
  fun e w'=>e = .returned (.bool true) ∧ ∃ st',I pre st'∧St S w0 w' (LF l D r Lf pre st')
theorem run_dist {l:Nat} {g:Operand} {gf:FuncId} {lb:List Value} {a:Act} (hg:a.eval g = .func (.func gf) #[] lb.toArray) {w:World} :
    (resolve a.eval (rangeCall g l) 0).run P w = .ok { target:=.fn (.func gf) lb.toArray,args:=#[.func (.yield l) #[] #[]] } w:=by
  simp only [resolve,hg]
  simp [go_sem]
theorem J_rangeFunc {g:Operand} {ps:List Tmp} {assign body:Code} {gf:FuncId} {lb:List Value} {α X:Type} {enc:α→List Value} {xs:List α} (I:List α→X→Prop) (Lf:List α→X→List Ent) (x0:X) (Li:List Ent)
    (hro:n.ro=none) (hg:ev E g = .func (.func gf) #[] lb.toArray) (hk:known E g=true) (hc:Callable P gf) (hps:∀ p∈ps,p<n.sz) (hn:∀ a,(enc a).length=ps.length)
    (hL:∀ w,St S w0 w L→St S w0 w (Li++Lf [] x0))
    (hit:∀ (w1:World) (l D:Nat) (r:Loop),Old S w0 (Lown (Li++LF l D r Lf [] x0)) w1→Give (Lown (Li++LF l D r Lf [] x0)) w1 (Li++LF l D r Lf [] x0)→YieldOk P l (Lown (Li++LF l D r Lf [] x0)) w1 enc I (LF l D r Lf) xs →
      Calls P gf (Value.func (.yield l) #[] #[]::lb).toArray w1 fun e w'=>(∃ v,e = .returned v) ∧ ∃ st,I xs st∧St (Lown (Li++LF l D r Lf [] x0)) w1 w' (LF l D r Lf xs st))
    (hbody:∀ (w2:World) (l D:Nat) (r:Loop) pre a rest st,xs=pre++a::rest→I pre st→Old S w0 (Lown (LF l D r Lf pre st)) w2 →
      J P ⟨n.sz,[],some l⟩ (Lown (LF l D r Lf pre st)) w2 assign (Exit.then (fun a₁ w₁=>∃ w₂,(Instr.beginRound l).run P w₁ = .ok () w₂∧body.wpIn (Wd (some l)) 0 P (roundPost P l (RR l D r I Lf (Lown (LF l D r Lf pre st)) w2 (pre++[a]))) a₁ w₂) (fun _ _ _=>False)) ((ps.zip (enc a)).reverse++E) (LF l D r Lf pre st))
    (hdone:∀ D st,I xs st→JX { n with ds:=mark D::n.ds } S w0 Q .normal E (dfr D::Lf xs st)) :
    J P n S w0 (.rangeFunc g ps.toArray assign body) Q E L:=by
  intro act w hR hS
  rw [hro]
  refine wpIn_rangeFunc ?_
  intro fn _
  obtain ⟨r,hr⟩:∃ r:Loop,r = { state:=.ready,pending:=none,fn,tmps:=act.tmps,params:=ps.toArray,assign,body,defers:=w.heap.size }:=⟨_,rfl⟩
  obtain ⟨W1,hW1⟩:∃ W1,(w.alloc (.deferred (some []))).alloc (lp r .ready)=W1:=⟨_,rfl⟩
  have hS0:=hL w hS
  have hS1:St S w0 W1 (LF (w.heap.size+1) w.heap.size r (fun (_:List α) (_:X)=>Li++Lf [] x0) [] x0):=by
    rw [← hW1]
    have h1:=(hS0.allocObj (.deferred (some []))).allocObj (lp r .ready)
    rwa [World.size_alloc] at h1
  have hS2:St S w0 W1 (Li++LF (w.heap.size+1) w.heap.size r Lf [] x0):=by
    refine hS1.perm ?_
    have e:∀ (a b:Ent) (l m:List Ent),(a::b::(l++m)).Perm (l++a::b::m):=fun a b l m =>
      ((List.perm_middle (a:=b) (l₁:=l) (l₂:=m)).symm.cons a).trans (List.perm_middle (a:=a) (l₁:=l) (l₂:=b::m)).symm
    exact e _ _ _ _
  have hgv:act.eval g = .func (.func gf) #[] lb.toArray:=(hR.eval hk).trans hg
  have hS2':St S w0 W1 ((Li++LF (w.heap.size+1) w.heap.size r Lf [] x0)++[]):=by rw [List.append_nil];exact hS2
  have hOld:=Old.of_st hS2' (lown_mem (L:=Li++LF (w.heap.size+1) w.heap.size r Lf [] x0))
  refine ⟨w.heap.size+1,[mark w.heap.size],W1,{ target:=.fn (.func gf) lb.toArray,args:=#[.func (.yield (w.heap.size+1)) #[] #[]] },W1,gf,
    (Value.func (.yield (w.heap.size+1)) #[] #[]::lb).toArray,W1,?_,?_,fun _ _=>trivial,?_,fun h=>(by cases h),?_⟩
  · rw [← hW1,hr];exact run_enterLoop_outer _ _ _ _ _
  · exact run_dist hgv
  · have h:=run_callFunc_enter (P:=P) (w:=W1) (args:=(Value.func (.yield (w.heap.size+1)) #[] #[]::lb).toArray) hc
    simp only [invoke]
    simpa using h
  · refine (callsIn_wd (ro:=none) (m:=0-1)).2 ((hit W1 (w.heap.size+1) w.heap.size r hOld hS2.togive ?_).mono ?_)
    · -- a round
      intro pre a rest st Lo W hp hI hSW
      have hlb:=obj_at (hSW.hold (Ent.obj (w.heap.size+1) (lp r .ready)) (List.mem_append_right _ List.mem_cons_self))
      refine ⟨fn,(ps.toArray.zip (enc a).toArray).foldl (fun tmps (t,a)=>tmps.setIfInBounds t a) act.tmps,assign,body,?_,?_⟩
      · rintro vs rfl
        have:=run_yield (P:=P) (args:=(enc a).toArray) hlb (by rw [hr];simp [hn a])
        rw [hr] at this
        exact this
      · have hSW2:St (Lown (Li++LF (w.heap.size+1) w.heap.size r Lf [] x0)) W1 W (LF (w.heap.size+1) w.heap.size r Lf pre st++Lo):=hSW.perm List.perm_append_comm
        have hold2:=hOld.trans (Old.of_st hSW2 lown_mem)
        have hb:=hbody W (w.heap.size+1) w.heap.size r pre a rest st hp hI hold2
        have hbase:St (Lown (LF (w.heap.size+1) w.heap.size r Lf pre st)) W W (LF (w.heap.size+1) w.heap.size r Lf pre st):=(hSW2.sublist (List.sublist_append_left _ _)).base
        have hf:=foldl_rep ps (enc a) act.tmps E n.sz hR.size hps hR.val
        have hrep:Rep ⟨n.sz,[],some (w.heap.size+1)⟩ ((ps.zip (enc a)).reverse++E) { tmps:=(ps.toArray.zip (enc a).toArray).foldl (fun tmps (t,a)=>tmps.setIfInBounds t a) act.tmps,defers:=[] }:=by
          rw [List.zip_toArray,List.foldl_toArray]
          exact ⟨rfl,hf.1,hf.2⟩
        have hro:=roundIn_of_wpIn (F:=Fence.wide) (n:=0) (f:=fn) trivial (hb _ W hrep hbase)
        refine hro.mono ?_
        rintro e w' ⟨rfl,st',hI',hS'⟩
        refine ⟨rfl,st',hI',?_⟩
        exact (hSW2.after lown_mem hS').perm List.perm_append_comm
    · rintro e w3 ⟨⟨v,rfl⟩,st,hI,hS3⟩
      have hS4:St S w0 w3 (LF (w.heap.size+1) w.heap.size r Lf xs st):=by
        have:=hS2'.after lown_mem hS3
        rwa [List.append_nil] at this
      refine ⟨none,_,run_endLoop (obj_at (hS4.hold _ List.mem_cons_self)) (by simp),?_⟩
      refine hdone w.heap.size st hI _ _ ⟨?_,hR.size,hR.val⟩ (hS4.putObj _).tail
      show mark w.heap.size::act.defers=mark w.heap.size::n.ds
      rw [hR.defers]
end
end Go.GV
namespace Go.GV
open Go.RowKit
theorem addr_zero (a:Addr):a.add 0=a:=by unfold Addr.add;rw [if_pos rfl]
theorem subA_zero (A:Option Addr) (cap sz:Nat):subA A cap 0 sz=A:=by
  unfold subA
  split
  · rfl
  · rw [Nat.zero_mul];cases A with
    | none=>rfl
    | some a=>exact congrArg some (addr_zero a)
section
variable {E:Env} {P:Program} {w:World} {x y:Operand} {dst:Option Nat} {t t' ty e:TypeId} {pos:String} {af:Array Edge} {g:Option (Nat × Bool)}
theorem x_head {A:Option Addr} {len cap n hi:Nat} {ohi:Option Operand} (hx:ev E x = .slice A len cap) (ht:P.underlying t=some (.slice e)) (hn:sizeIs P e=some n) (hhi:ohi.map (ev E)=some (vI (hi:Int))) (h2:hi≤cap) :
    (execOp (ev E) ⟨dst,.slice t x none ohi none,ty,pos,af,g⟩).run P w = .ok (.value (.slice A hi cap)) w:=by
  have:=x_subrow (P:=P) (w:=w) (dst:=dst) (ty:=ty) (pos:=pos) (af:=af) (g:=g) (lo:=0) (hi:=hi) (olo:=none) (ohi:=ohi) hx ht hn (.inr ⟨rfl,rfl⟩) (.inl hhi) (Nat.zero_le _) h2
  rwa [subA_zero,Nat.sub_zero,Nat.sub_zero] at this
theorem x_head_row {S:List Nat} {w0:World} {L:List Ent} (j:Nat) {A:Option Addr} {len cap n sz hi:Nat} {cs:List Value} {te:TypeId} {ohi:Option Operand} (hj:L[j]? = some (Ent.row (.slice A len cap) te sz len cs)) (hx:ev E x = .slice A len cap) (ht:P.underlying t=some (.slice e)) (hn:sizeIs P e=some n) (hhi:ohi.map (ev E)=some (vI (hi:Int))) (h2:hi≤len) :
    ∀ w,St S w0 w L→(execOp (ev E) ⟨dst,.slice t x none ohi none,ty,pos,af,g⟩).run P w = .ok (.value (.slice A hi cap)) w:=fun w hS=>by
  have:=row_le (hS.mem hj)
  exact x_head hx ht hn hhi (by omega)
end
theorem St.trunc {S:List Nat} {w0 w:World} {L L':List Ent} (h:St S w0 w L) (j:Nat) {A:Option Addr} {len n cap sz:Nat} {te:TypeId} {cs cs':List Value} (hj:L[j]? = some (Ent.row (.slice A len cap) te sz len cs)) (hL:L.set j (Ent.row (.slice A n cap) te sz n cs')=L') (hn:n≤len) (hcs:cs'=cs.take (n*sz)):St S w0 w L':=by
  subst hL
  have hat:=h.mem hj
  have ho:(Value.slice A n cap).ownBlock=(Value.slice A len cap).ownBlock:=by cases A <;> rfl
  refine St.swapAt h hj ?_ ?_ (fun b hb=>.inl (ho.symm.trans hb))
  · exact ⟨rfl,rfl,rfl,Nat.le_refl _,fun _ _ _=>rfl⟩
  · obtain ⟨⟨h1,h2⟩,h3⟩:=hat
    have hb:n*sz≤len*sz:=Nat.mul_le_mul_right sz hn
    refine ⟨⟨by rw [hcs,List.length_take,h1];omega,?_⟩,fun b hb2=>h3 b (ho.symm.trans hb2)⟩
    rcases h2 with ⟨h2,h4⟩ | ⟨gb,cap',cur,h2,hob,hcap,hmax,hcs2,htk⟩
    · cases h2
      have:n=0:=by omega
      subst this;exact .inl ⟨rfl,rfl⟩
    · cases h2
      refine .inr ⟨gb,cap,cur,rfl,hob,by omega,hmax,hcs2,?_⟩
      rw [hcs,← htk,List.take_take]
      congr 1;omega
theorem truncL {S:List Nat} {w0 w:World} {L L':List Ent} (h:St S w0 w L) (j:Nat) {A:Option Addr} {len n m cap sz:Nat} {te:TypeId} {cs cs':List Value} (hj:L[j]? = some (Ent.row (.slice A len cap) te sz len cs)) (hL:L.set j (Ent.row (.slice A m cap) te sz m cs')=L') (hn:n≤len) (hcs:cs'=cs.take (n*sz)) (hm:n=m):St S w0 w L':=by
  subst hm;exact h.trunc j hj hL hn hcs
theorem take_flat {α:Type} (f:α→List Value) (sz:Nat) (hf:∀ a,(f a).length=sz):∀ (xs:List α) (n:Nat),(xs.take n).flatMap f=(xs.flatMap f).take (n*sz)
  | [],n=>by simp
  | x::xs,0=>by simp
  | x::xs,n+1=>by
    rw [List.take_succ_cons,List.flatMap_cons,List.flatMap_cons,take_flat f sz hf xs n,Nat.succ_mul,Nat.add_comm (n*sz) sz,List.take_append,hf,List.take_of_length_le (l:=f x) (by rw [hf];omega),show sz+n*sz-sz=n*sz by omega]
theorem drop_flat {α:Type} (f:α→List Value) (sz:Nat) (hf:∀ a,(f a).length=sz):∀ (xs:List α) (n:Nat),(xs.drop n).flatMap f=(xs.flatMap f).drop (n*sz)
  | [],n=>by simp
  | x::xs,0=>by simp
  | x::xs,n+1=>by
    rw [List.drop_succ_cons,List.flatMap_cons,drop_flat f sz hf xs n,Nat.succ_mul,Nat.add_comm (n*sz) sz,List.drop_append,hf,List.drop_of_length_le (l:=f x) (by rw [hf];omega),show sz+n*sz-sz=n*sz by omega];rfl
theorem take_len {α:Type} {xs:List α} {n:Nat} (h:n≤xs.length):n=(xs.take n).length:=by rw [List.length_take];omega
theorem RO.sub {S:List Nat} {w:World} {A:Option Addr} {cs:List Value} (h:RO S w A cs) (cap lo n sz:Nat) (hn:n=0∨lo<cap):RO S w (subA A cap lo sz) ((cs.drop (lo*sz)).take (n*sz)):=by
  rcases hn with rfl | hn
  · rw [Nat.zero_mul,List.take_zero];exact RO.nil
  · refine RO.take ?_ _
    unfold subA
    rw [if_neg (by omega)]
    exact RO.drop h _
theorem RO.subM {α:Type} {S:List Nat} {w:World} {A:Option Addr} {xs:List α} {f:α→Value} (h:RO S w A (xs.map f)) (cap lo n:Nat) (hn:n=0∨lo<cap):RO S w (subA A cap lo 1) (((xs.drop lo).take n).map f):=by
  have:=h.sub cap lo n 1 hn
  rwa [Nat.mul_one,Nat.mul_one,← List.map_drop,← List.map_take] at this
def int8 (c:UInt8):Int:=if c.toNat<128 then (c.toNat:Int) else (c.toNat:Int)-256
theorem int8_lt (c:UInt8) : -128≤int8 c∧int8 c≤127:=by have:=c.toNat_lt;unfold int8;split <;> omega
theorem wrap_int8 (c:UInt8):IntKind.i8.wrap (c.toNat:Int)=int8 c:=by
  have:=c.toNat_lt
  have h:IntKind.i8.wrap (c.toNat:Int)=if (c.toNat:Int) % 256 ≥ 128 then (c.toNat:Int) % 256-256 else (c.toNat:Int) % 256:=by
    show (if (true&&decide ((c.toNat:Int) % 256 ≥ 128))=true then (c.toNat:Int) % 256-256 else (c.toNat:Int) % 256)=_
    simp
  rw [h]
  unfold int8
  split <;> split <;> omega
section
variable {E:Env} {P:Program} {w:World} {x y z:Operand} {dst:Option Nat} {t t' ty u:TypeId} {pos:String} {af:Array Edge} {g:Option (Nat × Bool)}
theorem x_conv_u8_i8 {a:UInt8} {q:TypeDesc} (hx:ev E x=vU8 a) (hs:P.underlying t=some q) (hd:P.underlying u=some (.int .i8)):(execOp (ev E) ⟨dst,.convert t u x,ty,pos,af,g⟩).run P w = .ok (.value (.int .i8 (int8 a))) w:=by
  have hr:(convert t u (vU8 a)).run P w = .ok (.int .i8 (IntKind.i8.wrap (a.toNat:Int))) w:=by
    simp [convert,run_underlying hs,run_underlying hd,Conv.intToInt]
  simp only [execOp,hx]
  show (Sem.run P (do let v ← convert t u (vU8 a);pure (Next.value v)) w)=_
  rw [Sem.run_bind,hr]
  simp only [Result.andThen_ok]
  rw [wrap_int8];rfl
theorem x_conv_i8_i64 {a:Int} {q:TypeDesc} (hx:ev E x = .int .i8 a) (hs:P.underlying t=some q) (hd:P.underlying u=some (.int .i64)) (h1 : -128≤a) (h2:a≤127):(execOp (ev E) ⟨dst,.convert t u x,ty,pos,af,g⟩).run P w = .ok (.value (vI a)) w:=by
  have hr:(convert t u (.int .i8 a)).run P w = .ok (.int .i64 (IntKind.i64.wrap a)) w:=by
    simp [convert,run_underlying hs,run_underlying hd,Conv.intToInt]
  simp only [execOp,hx]
  show (Sem.run P (do let v ← convert t u (.int .i8 a);pure (Next.value v)) w)=_
  rw [Sem.run_bind,hr]
  simp only [Result.andThen_ok]
  rw [wrap_i64_in _ (by omega) (by omega)];rfl
theorem ofInt_mod (a:Int):BitVec.ofInt 64 a=BitVec.ofNat 64 (a % 18446744073709551616).toNat:=by
  apply BitVec.eq_of_toNat_eq
  rw [BitVec.toNat_ofInt,BitVec.toNat_ofNat]
  have:=Int.emod_lt_of_pos a (show (0:Int)<18446744073709551616 by decide)
  have:=Int.emod_nonneg a (show (18446744073709551616:Int)≠0 by decide)
  rw [Nat.mod_eq_of_lt (by omega)]
  rfl
theorem x_or_hi {n:Int} {a:Int} {c:Nat} (hx:ev E x=vI a) (hy:ev E y=vI (c:Int)) (ha:a=n*256) (hc:c<256) (h1 : -36028797018963968≤n) (h2:n<36028797018963968):(execOp (ev E) ⟨dst,.binOp .or t x y t',ty,pos,af,g⟩).run P w = .ok (.value (vI (a+(c:Int)))) w:=by
  have h:IntKind.i64.wrap ((BitVec.ofInt 64 a ||| BitVec.ofInt 64 (c:Int)).toNat:Int)=a+c:=by
    rw [BitVec.toNat_or,ofInt_mod,ofInt_mod (c:Int),BitVec.toNat_ofNat,BitVec.toNat_ofNat]
    have e1:=Int.emod_lt_of_pos n (show (0:Int)<72057594037927936 by decide)
    have e2:=Int.emod_nonneg n (show (72057594037927936:Int)≠0 by decide)
    obtain ⟨m,hm⟩:∃ m:Nat,n % 72057594037927936=m:=⟨(n % 72057594037927936).toNat,by omega⟩
    have e3:(a % 18446744073709551616).toNat % 2 ^ 64=m <<< 8:=by
      rw [Nat.shiftLeft_eq]
      have:a % 18446744073709551616=m*256:=by rw [ha];omega
      rw [this];omega
    have e4:((c:Int) % 18446744073709551616).toNat % 2 ^ 64=c:=by omega
    rw [e3,e4,← Nat.shiftLeft_add_eq_or_of_lt (by omega:c<2 ^ 8),Nat.shiftLeft_eq,IntKind.wrap_i64]
    omega
  simp only [execOp,hx,hy]
  show Result.ok (Next.value (.int .i64 (IntKind.i64.wrap ((BitVec.ofInt 64 a ||| BitVec.ofInt 64 (c:Int)).toNat:Int)))) w=_
  rw [h]
end
section
variable {n:Dim} {S:List Nat} {w0:World} {P:Program} {ops:Array Oper} {Q:Post} {E:Env} {L:List Ent} {rest:List Oper} {d:Nat}
theorem sn_ {a b:Int} (e:a=b) (h:JO P n S w0 ops rest Q ((d,vI b)::E) L):JO P n S w0 ops rest Q ((d,vI a)::E) L:=by subst e;exact h
theorem sE_ {a b:Int} (h:a=b):some (vI a)=some (vI b):=by rw [h]
end
end Go.GV
namespace Go.GV
open Go.RowKit
def lateB (ops:Array Oper):Nat→Nat→Nat→Bool
  | 0,_,_=>false
  | f+1,u,i=>match ops[u]? with
    | some x=>x.after.any fun e=>Region.binds .any e&&(e.on == i||lateB ops f e.on i)
    | none=>false
theorem getD_up {l:Array Bool} {i:Nat} (h:l.getD i false=true):l.getD i true=true:=by
  rw [Array.getD_eq_getD_getElem?] at *
  cases hc:l[i]? with
  | none=>rw [hc] at h;cases h
  | some b=>rw [hc] at h;exact h
theorem late_listed {ops:Array Oper} {l:Array Bool} (hl:Closed ops l):∀ (f u i:Nat),lateB ops f u i=true→l.getD u true=true→l.getD i false=true
  | 0,u,i,h,_=>by cases h
  | f+1,u,i,h,hu=>by
    rw [lateB] at h
    cases hx:ops[u]? with
    | none=>rw [hx] at h;cases h
    | some x =>
      rw [hx] at h
      obtain ⟨e,he,hb⟩:=Array.any_eq_true'.1 h
      rw [Bool.and_eq_true,Bool.or_eq_true] at hb
      have h2:=hl.2 u x hx hu e he hb.1
      rcases hb.2 with h3 | h3
      · rw [beq_iff_eq] at h3;rw [h3] at h2;exact h2
      · exact late_listed hl f e.on i h3 (getD_up h2)
section
variable {P:Program} {n:Dim} {S:List Nat} {w0:World} {Q:Post} {E:Env} {L:List Ent}
variable {ops:Array Oper} {Lg Lu:List Ent} {us:List Nat} {fuel:Nat} {listed:Array Bool}
theorem JA_earlyT (i:Nat) {o:Oper} (v:Value) (hi:ops[i]? = some o) (hs:Region.noSelect ops=true) (hf:Region.free .any ops listed i=true) (hr:(Region.ready .any ops listed).contains i=true) (hu:us.contains i=false)
    (hlate:(us.all fun u=>lateB ops 64 u i)=true)
    (hQ:∀ c a w,Q (.panic c) (a.put o.dst v) w→Q (.panic c) a w) (hfit:fit n E o=true) (hw:wants ops E o) (hv:∀ w,St S w0 w Lu→(execOp (ev E) o).run P w = .ok (.value v) w)
    (h:JA P n S w0 ops Q Lg us Lu fuel (listed.setIfInBounds i true) (put E o.dst v) L):JA P n S w0 ops Q Lg us Lu (fuel+1) listed E L:=by
  intro a w hR hS hcl
  have hr':i∈Region.ready .any ops listed:=by simpa using hr
  have hnone:∀ l:Array Bool,Closed ops l→l.getD i true=false→(us.all fun u=>!l.getD u true)=true:=by
    intro l hl hun
    rw [List.all_eq_true] at hlate ⊢
    intro u hu'
    cases hc:l.getD u true with
    | false=>rfl
    | true =>
      have h2:=late_listed hl 64 u i (hlate u hu') hc
      have h3:=getD_up h2
      rw [hun] at h3;cases h3
  refine wpAnyG_first (H:=fun w=>St S w0 w Lu) hi (Region.noSelect_spec hs) hQ
    (fun l w hc hl h=>h.2 (by rw [all_unset hu];exact hnone l hc hl)) (fun l w _ hl h=>⟨h.1,fun hh=>h.2 (by rw [all_unset hu];exact hh)⟩) fuel listed a w hcl (Region.free_spec hi hf) hr' (.inl ⟨wants_wanted hR hw,fit_nodefer hfit,fun w' hG=>?_⟩) (h _ w (hR.put (fit_dst hfit) v) hS (hcl.add hr'))
  rw [fit_exec hfit hR];exact hv w' hG
end
end Go.GV
namespace Go.GV
open Go.RowKit
section
variable {α:Type} {S:List Nat} {w:World} {A:Option Addr} {xs:List α}
theorem RO.head {cs:List Value} (h:RO S w A cs) (n:Nat):RO S w A (cs.take n):=fun j v hj=>by
  rw [List.getElem?_take] at hj
  split at hj
  · exact h j v hj
  · cases hj
end
end Go.GV
namespace Go.GV
open Go.RowKit Go.MapKept
end Go.GV
namespace Go.GV
open Go.RowKit
def Kp (S:List Nat) (w:World) (C:World→Prop):Prop:=
  ∃ B:Nat→Prop,(∀ b,B b→b<w.heap.size∧b∉S) ∧ ∀ w':World,(∀ b,B b→w'.heap[b]? = w.heap[b]?)→C w'
section
variable {S S' Sc F:List Nat} {w0 w:World} {C D:World→Prop} {L Lc Lr:List Ent}
theorem Kp.now (h:Kp S w C):C w:=by obtain ⟨B,_,h⟩:=h;exact h w fun _ _=>rfl
theorem Kp.imp (h:Kp S w C) (k:∀ w,C w→D w):Kp S w D:=by
  obtain ⟨B,h1,h2⟩:=h;exact ⟨B,h1,fun w' hw=>k _ (h2 w' hw)⟩
theorem Kp.pure {p:Prop} (h:p):Kp S w fun _=>p:=⟨fun _=>False,fun _ h=>h.elim,fun _ _=>h⟩
theorem Kp.and (h:Kp S w C) (k:Kp S w D):Kp S w fun w=>C w∧D w:=by
  obtain ⟨B,h1,h2⟩:=h;obtain ⟨B',k1,k2⟩:=k
  exact ⟨fun b=>B b∨B' b,fun b hb=>hb.elim (h1 b) (k1 b),fun w' hw=>⟨h2 w' fun b hb=>hw b (.inl hb),k2 w' fun b hb=>hw b (.inr hb)⟩⟩
theorem Kp.all {ι:Type} {C:ι→World→Prop} (h:∀ i,Kp S w (C i)):Kp S w fun w=>∀ i,C i w:=
  ⟨fun b=>∃ i,(h i).choose b,fun b ⟨i,hi⟩=>(h i).choose_spec.1 b hi,fun w' hw i=>(h i).choose_spec.2 w' fun b hb=>hw b ⟨i,hb⟩⟩
theorem Kp.mono (h:Kp S w C) (hs:∀ b∈S',b∈S):Kp S' w C:=by
  obtain ⟨B,h1,h2⟩:=h;exact ⟨B,fun b hb=>⟨(h1 b hb).1,fun hh=>(h1 b hb).2 (hs _ hh)⟩,h2⟩
theorem Kp.no (h:Kp S w C):Kp [] w C:=h.mono fun _ hb=>by cases hb
theorem Kp.fromF (h:Kp (S++F) w C):Kp S w C:=h.mono fun _ hb=>List.mem_append.2 (.inl hb)
theorem Kp.freshF (h:Kp (S++F) w C):Kp F w C:=h.mono fun _ hb=>List.mem_append.2 (.inr hb)
theorem Kp.turn (h:Kp S w0 C) (hf:Fr S w0 w) (hn:∀ b,b<w0.heap.size→b∉S→b∉Sc):Kp Sc w C:=by
  obtain ⟨B,h1,h2⟩:=h
  refine ⟨B,fun b hb=>⟨Nat.lt_of_lt_of_le (h1 b hb).1 hf.size,hn b (h1 b hb).1 (h1 b hb).2⟩,fun w' hw=>h2 w' fun b hb=>(hw b hb).trans (hf.block b (h1 b hb).1 (h1 b hb).2)⟩
theorem Kp.on (h:Kp S w0 C) (hS:St S w0 w (Lc++Lr)) (hSc:∀ b∈Sc,∃ e∈Lc,e.own=some b):Kp Sc w C:=by
  refine h.turn hS.fr fun b hb hn hin=>?_
  obtain ⟨e,he,ho⟩:=hSc b hin
  rcases hS.own e (by simp [he]) _ ho with h1 | h1
  · exact hn h1
  · omega
theorem Kp.on0 (h:Kp S w0 C) (hS:St S w0 w L):Kp [] w C:=h.on (Lc:=[]) (Lr:=L) hS (by simp)
theorem Kp.again (h:Kp S w0 C) (hS:St S w0 w L):Kp (Lown L) w C:=
  h.on (Lc:=L) (Lr:=[]) (by rw [List.append_nil];exact hS) lown_mem
theorem Kp.againF (h:Kp (S++F) w0 C) (hS:St S w0 w L):Kp (Lown L++F) w C:=by
  obtain ⟨B,h1,h2⟩:=h
  refine ⟨B,fun b hb=>?_,fun w' hw=>h2 w' fun b hb=>(hw b hb).trans (hS.fr.block b (h1 b hb).1 fun hh=>(h1 b hb).2 (List.mem_append.2 (.inl hh)))⟩
  have hn:=h1 b hb
  refine ⟨Nat.lt_of_lt_of_le hn.1 hS.fr.size,fun hh=>?_⟩
  rcases List.mem_append.1 hh with hh | hh
  · obtain ⟨e,he,ho⟩:=lown_mem b hh
    rcases hS.own e he _ ho with h3 | h3
    · exact hn.2 (List.mem_append.2 (.inl h3))
    · omega
  · exact hn.2 (List.mem_append.2 (.inr hh))
theorem Kp.old {S2:List Nat} {w2:World} (h:Kp S w0 C) (ho:Old S w0 S2 w2):Kp S2 w2 C:=by
  obtain ⟨B,h1,h2⟩:=h
  exact ⟨B,fun b hb=>⟨(ho b (h1 b hb).1 (h1 b hb).2).1,(ho b (h1 b hb).1 (h1 b hb).2).2.1⟩,fun w' hw=>h2 w' fun b hb=>(hw b hb).trans (ho b (h1 b hb).1 (h1 b hb).2).2.2⟩
theorem Kp.held (h:Kp S w0 C) (hS:St S w0 w L):C w:=(h.on0 hS).now
end
section
variable {S:List Nat} {w:World} {A:Option Addr} {cs:List Value}
theorem cell_of {w w':World} {a:Addr} (h:w'.heap[a.block]? = w.heap[a.block]?):w'.cell? a=w.cell? a:=World.cell?_of_block h
theorem RO.kp (h:RO S w A cs):Kp S w fun w=>Cells w A cs:=by
  refine ⟨fun b=>∃ (j:Nat) (v:Value) (a:Addr),cs[j]? = some v∧A=some a∧a.block=b,?_,?_⟩
  · rintro b ⟨j,v,a,hv,rfl,rfl⟩
    obtain ⟨a',e,hb,hn,_⟩:=h j v hv
    injection e with e;subst e
    exact ⟨hb,hn⟩
  · intro w' hw j v hv
    obtain ⟨a,rfl,hb,hn,hc⟩:=h j v hv
    refine ⟨a,rfl,?_⟩
    rw [← hc]
    exact World.cell?_of_block (by rw [add_block];exact hw _ ⟨j,v,a,hv,rfl,rfl⟩)
theorem cell_map {w:World} {a:Addr} {es:Array MapEntry} {c:Nat} (h:w.heap[a.block]? = some (.map es c)):w.cell? a=none:=by
  unfold World.cell?;rw [h]
theorem cell_none {w:World} {a:Addr} (h:w.heap[a.block]? = none):w.cell? a=none:=by
  unfold World.cell?;rw [h]
theorem Kp.ro (h:Kp S w fun w=>Cells w A cs):RO S w A cs:=by
  obtain ⟨B,h1,h2⟩:=h
  intro j v hv
  obtain ⟨a,rfl,hc⟩:=h2 w (fun _ _=>rfl) j v hv
  by_cases hb:B a.block
  · exact ⟨a,rfl,(h1 _ hb).1,(h1 _ hb).2,hc⟩
  · exfalso
    have hb2:B (a.add j).block→False:=by rw [add_block];exact hb
    obtain ⟨a2,e,hc2⟩:=h2 { w with heap:=w.heap.setIfInBounds (a.add j).block (.map #[] 0) } (fun b hB=>by
      show (w.heap.setIfInBounds (a.add j).block _)[b]? = _
      rw [Array.getElem?_setIfInBounds,if_neg (fun e:(a.add j).block=b=>hb2 (by rw [e];exact hB))]) j v hv
    injection e with e;subst e
    by_cases hlt:(a.add j).block<w.heap.size
    · rw [cell_map (es:=#[]) (c:=0) (by show (w.heap.setIfInBounds (a.add j).block _)[(a.add j).block]? = _;rw [Array.getElem?_setIfInBounds,if_pos rfl,if_pos hlt])] at hc2;cases hc2
    · rw [cell_none (by show (w.heap.setIfInBounds (a.add j).block _)[(a.add j).block]? = _;rw [Array.getElem?_setIfInBounds,if_pos rfl,if_neg hlt])] at hc2;cases hc2
end
section
variable {S:List Nat} {w00 w0 w:World} {C:World→Prop} {Lc Lr:List Ent}
end
section
variable {E:Env} {P:Program} {x y z:Operand} {dst:Option Nat} {t t' ty u:TypeId} {pos:String} {af:Array Edge} {g:Option (Nat × Bool)} {κ:Type} [DecidableEq κ]
end
def okL {α:Type} [Inhabited α] (ok:α→World→Prop) (l:List α) (w:World):Prop:=∀ i:Nat,ok (l.getD i default) w
section
variable {α:Type} [Inhabited α] {ok:α→World→Prop} {S:List Nat} {w:World} {l m:List α}
theorem okL_of (h:∀ a∈l,Kp S w (ok a)) (hd:Kp S w (ok default)):Kp S w (okL ok l):=Kp.all fun i=>by
  rcases Nat.lt_or_ge i l.length with hi | hi
  · rw [List.getD_eq_getElem?_getD,List.getElem?_eq_getElem hi];exact h _ (List.getElem_mem hi)
  · rw [List.getD_eq_getElem?_getD,List.getElem?_eq_none hi];exact hd
theorem okL_at (h:Kp S w (okL ok l)) (i:Nat):Kp S w (ok (l.getD i default)):=h.imp fun _ k=>k i
end
theorem okL_nil {α:Type} [Inhabited α] {ok:α→World→Prop} {S:List Nat} {w:World} (h:Kp S w (ok default)):Kp S w (okL ok ([]:List α)):=Kp.all fun _=>h
section
variable {S Sc:List Nat} {w0 w wc wb w00:World} {L L' Lc Lr:List Ent} {C:World→Prop}
end
def kvS (p:Bytes × Bytes):Bytes × Value:=(p.1,vS p.2)
def putK {α:Type} : List (Bytes × α)→Bytes→α→List (Bytes × α)
  | [],k,v=>[(k,v)]
  | (a,u)::l,k,v=>if k=a then (k,v)::l else (a,u)::putK l k v
def lookK {α:Type} (l:List (Bytes × α)) (k:Bytes):Option α:=(l.find? fun p=>p.1=k).map (·.2)
theorem lk_map {α:Type} (enc:α→Value) (k:Bytes):∀ l:List (Bytes × α),lk (l.map fun p=>(p.1,enc p.2)) k=(lookK l k).map enc
  | []=>rfl
  | (a,v)::l=>by
    have ih:=lk_map enc k l
    unfold lookK at *
    rw [List.map_cons,lk,List.find?_cons]
    by_cases h:k=a
    · subst h;rw [if_pos rfl];simp
    · rw [if_neg h,ih]
      rw [show decide ((a,v).1=k)=false from decide_eq_false (fun e:a=k=>h e.symm)]
end Go.GV
namespace Go.Proofs.YtggobegaiijhhaaGreatDoor
open Go.GV
structure DataSet where
  Id:Int
  Org:Int
  Format:Int
  Length:Int
  Block:Int
  KeyAt:Int
  KeyLength:Int
  Interval:Int
  Area:Int
  FreeInterval:Int
  FreeArea:Int
  Base:Int
  AltAt:Int
  AltLength:Int
  Unique:Bool
  Class:Int
  Volume:Bytes
  Owner:Bytes
  Created:Int
  Expires:Int
  Archived:Bool
deriving DecidableEq,Inhabited
def DataSet.enc (a:DataSet):List Value:=[vI a.Id,vI a.Org,vI a.Format,vI a.Length,vI a.Block,vI a.KeyAt,vI a.KeyLength,vI a.Interval,vI a.Area,vI a.FreeInterval,vI a.FreeArea,vI a.Base,vI a.AltAt,vI a.AltLength,vB a.Unique,vI a.Class,vS a.Volume,vS a.Owner,vI a.Created,vI a.Expires,vB a.Archived]
theorem DataSet.enc_len (a:DataSet):(DataSet.enc a).length=21:=rfl
theorem DataSet.enc_one (a:DataSet):(DataSet.enc a).all Value.oneCell'=true:=rfl
structure Binding where
  Name:Bytes
  Data:Bytes
  Group:Bool
  Relative:Int
  Step:Bytes
  From:Bytes
  Status:Int
  Normal:Int
  Abnormal:Int
  DSet:DataSet
  Tracks:Int
  More:Int
  Inline:Bool
  Lines:List Bytes
  LinesA:Option Addr
  LinesC:Nat
  Dummy:Bool
  BName:Bytes
  Kind:Int
  EName:Bytes
  EData:DataSet
  AltsA:Option Addr
  AltsN:Nat
  AltsC:Nat
  Used:Int
  Limit:Int
  Last:Int
  Empty:Bool
  Owner:Bytes
  Target:Bytes
  Catalog:Int
  Level:Int
  GrantsA:Option Addr
  GrantsN:Nat
  GrantsC:Nat
  Create:Bool
  Set:DataSet
deriving Inhabited
def Binding.enc (a:Binding):List Value:=[vS a.Name,vS a.Data,vB a.Group,vI a.Relative,vS a.Step,vS a.From,vI a.Status,vI a.Normal,vI a.Abnormal,vI a.DSet.Id,vI a.DSet.Org,vI a.DSet.Format,vI a.DSet.Length,vI a.DSet.Block,vI a.DSet.KeyAt,vI a.DSet.KeyLength,vI a.DSet.Interval,vI a.DSet.Area,vI a.DSet.FreeInterval,vI a.DSet.FreeArea,vI a.DSet.Base,vI a.DSet.AltAt,vI a.DSet.AltLength,vB a.DSet.Unique,vI a.DSet.Class,vS a.DSet.Volume,vS a.DSet.Owner,vI a.DSet.Created,vI a.DSet.Expires,vB a.DSet.Archived,vI a.Tracks,vI a.More,vB a.Inline,vL a.LinesA a.Lines.length a.LinesC,vB a.Dummy,vS a.BName,vI a.Kind,vS a.EName,vI a.EData.Id,vI a.EData.Org,vI a.EData.Format,vI a.EData.Length,vI a.EData.Block,vI a.EData.KeyAt,vI a.EData.KeyLength,vI a.EData.Interval,vI a.EData.Area,vI a.EData.FreeInterval,vI a.EData.FreeArea,vI a.EData.Base,vI a.EData.AltAt,vI a.EData.AltLength,vB a.EData.Unique,vI a.EData.Class,vS a.EData.Volume,vS a.EData.Owner,vI a.EData.Created,vI a.EData.Expires,vB a.EData.Archived,vL a.AltsA a.AltsN a.AltsC,vI a.Used,vI a.Limit,vI a.Last,vB a.Empty,vS a.Owner,vS a.Target,vI a.Catalog,vI a.Level,vL a.GrantsA a.GrantsN a.GrantsC,vB a.Create,vI a.Set.Id,vI a.Set.Org,vI a.Set.Format,vI a.Set.Length,vI a.Set.Block,vI a.Set.KeyAt,vI a.Set.KeyLength,vI a.Set.Interval,vI a.Set.Area,vI a.Set.FreeInterval,vI a.Set.FreeArea,vI a.Set.Base,vI a.Set.AltAt,vI a.Set.AltLength,vB a.Set.Unique,vI a.Set.Class,vS a.Set.Volume,vS a.Set.Owner,vI a.Set.Created,vI a.Set.Expires,vB a.Set.Archived]
theorem Binding.enc_len (a:Binding):(Binding.enc a).length=91:=rfl
theorem Binding.enc_one (a:Binding):(Binding.enc a).all Value.oneCell'=true:=rfl
structure SRow where
  Id:Int
  Key:Bytes
  Record:Bytes
deriving DecidableEq,Inhabited
def SRow.enc (a:SRow):List Value:=[vI a.Id,vS a.Key,vS a.Record]
theorem SRow.enc_len (a:SRow):(SRow.enc a).length=3:=rfl
theorem SRow.enc_one (a:SRow):(SRow.enc a).all Value.oneCell'=true:=rfl
structure Change where
  Kind:Int
  Id:Int
  Key:Bytes
  Record:Bytes
  Volume:Bytes
deriving DecidableEq,Inhabited
def Change.enc (a:Change):List Value:=[vI a.Kind,vI a.Id,vS a.Key,vS a.Record,vS a.Volume]
theorem Change.enc_len (a:Change):(Change.enc a).length=5:=rfl
theorem Change.enc_one (a:Change):(Change.enc a).all Value.oneCell'=true:=rfl
def Binding.ok (e:Binding) (w:World):Prop:=Cells w e.LinesA (e.Lines.map vS)
section
variable {P:Program} {t:TypeId}
theorem open_cap {e:TypeId} (ht:P.underlying t=some (.slice e)):OpenAt P t fun _ cs=>∃ (A:Option Addr) (l c:Nat),cs=[.slice A l c]∧l≤c:=by
  intro H enc w fuel cs x hx
  rcases Deep.open_slice ht hx with ⟨rfl,_⟩ | ⟨a,len,cap,m,n,D,Pl,rfl,_,hlc,_⟩
  · exact ⟨none,0,0,rfl,Nat.le_refl _⟩
  · exact ⟨some a,len,cap,rfl,hlc⟩
end
namespace Ty
def _root_.Go.Proofs.YtggobegaiijhhaaGreatDoor.SRow.ok (a:SRow):Prop:=(-9223372036854775808≤a.Id∧a.Id≤9223372036854775807)∧a.Key.length≤9223372036854775807∧a.Record.length≤9223372036854775807
set_option maxRecDepth 20000 in
theorem op57:OpenAt Tryz.prog 57 fun _ cs=>∃ a:SRow,cs=SRow.enc a∧SRow.ok a:=by
  intro H enc w fuel cs x h
  have h:=open_struct Tryz.underlying57 (.cons (by kernel_rfl) (open_i Tryz.underlying3) (.cons (by kernel_rfl) (open_s Tryz.underlying9) (.cons (by kernel_rfl) (open_s Tryz.underlying9) (.nil (by kernel_rfl))))) H enc w fuel cs x h
  obtain ⟨p0,q0,rfl,⟨n0,rfl,hl0,hu0⟩,p1,q1,rfl,⟨s1,rfl,hs1⟩,p2,q2,rfl,⟨s2,rfl,hs2⟩,rfl⟩:=h
  exact ⟨SRow.mk n0 s1 s2,rfl,⟨hl0,hu0⟩,hs1,hs2⟩
def _root_.Go.Proofs.YtggobegaiijhhaaGreatDoor.DataSet.ok (a:DataSet):Prop:=(-9223372036854775808≤a.Id∧a.Id≤9223372036854775807)∧(-9223372036854775808≤a.Org∧a.Org≤9223372036854775807)∧(-9223372036854775808≤a.Format∧a.Format≤9223372036854775807)∧(-9223372036854775808≤a.Length∧a.Length≤9223372036854775807)∧(-9223372036854775808≤a.Block∧a.Block≤9223372036854775807)∧(-9223372036854775808≤a.KeyAt∧a.KeyAt≤9223372036854775807)∧(-9223372036854775808≤a.KeyLength∧a.KeyLength≤9223372036854775807)∧(-9223372036854775808≤a.Interval∧a.Interval≤9223372036854775807)∧(-9223372036854775808≤a.Area∧a.Area≤9223372036854775807)∧(-9223372036854775808≤a.FreeInterval∧a.FreeInterval≤9223372036854775807)∧(-9223372036854775808≤a.FreeArea∧a.FreeArea≤9223372036854775807)∧(-9223372036854775808≤a.Base∧a.Base≤9223372036854775807)∧(-9223372036854775808≤a.AltAt∧a.AltAt≤9223372036854775807)∧(-9223372036854775808≤a.AltLength∧a.AltLength≤9223372036854775807)∧(-9223372036854775808≤a.Class∧a.Class≤9223372036854775807)∧a.Volume.length≤9223372036854775807∧a.Owner.length≤9223372036854775807∧(-9223372036854775808≤a.Created∧a.Created≤9223372036854775807)∧(-9223372036854775808≤a.Expires∧a.Expires≤9223372036854775807)
set_option maxRecDepth 20000 in
theorem op24:OpenAt Tryz.prog 24 fun _ cs=>∃ a:DataSet,cs=DataSet.enc a∧DataSet.ok a:=by
  intro H enc w fuel cs x h
  have h:=open_struct Tryz.underlying24 (.cons (by kernel_rfl) (open_i Tryz.underlying3) (.cons (by kernel_rfl) (open_i Tryz.underlying3) (.cons (by kernel_rfl) (open_i Tryz.underlying3) (.cons (by kernel_rfl) (open_i Tryz.underlying3) (.cons (by kernel_rfl) (open_i Tryz.underlying3) (.cons (by kernel_rfl) (open_i Tryz.underlying3) (.cons (by kernel_rfl) (open_i Tryz.underlying3) (.cons (by kernel_rfl) (open_i Tryz.underlying3) (.cons (by kernel_rfl) (open_i Tryz.underlying3) (.cons (by kernel_rfl) (open_i Tryz.underlying3) (.cons (by kernel_rfl) (open_i Tryz.underlying3) (.cons (by kernel_rfl) (open_i Tryz.underlying3) (.cons (by kernel_rfl) (open_i Tryz.underlying3) (.cons (by kernel_rfl) (open_i Tryz.underlying3) (.cons (by kernel_rfl) (open_b Tryz.underlying4) (.cons (by kernel_rfl) (open_i Tryz.underlying3) (.cons (by kernel_rfl) (open_s Tryz.underlying9) (.cons (by kernel_rfl) (open_s Tryz.underlying9) (.cons (by kernel_rfl) (open_i Tryz.underlying3) (.cons (by kernel_rfl) (open_i Tryz.underlying3) (.cons (by kernel_rfl) (open_b Tryz.underlying4) (.nil (by kernel_rfl))))))))))))))))))))))) H enc w fuel cs x h
  obtain ⟨p0,q0,rfl,⟨n0,rfl,hl0,hu0⟩,p1,q1,rfl,⟨n1,rfl,hl1,hu1⟩,p2,q2,rfl,⟨n2,rfl,hl2,hu2⟩,p3,q3,rfl,⟨n3,rfl,hl3,hu3⟩,p4,q4,rfl,⟨n4,rfl,hl4,hu4⟩,p5,q5,rfl,⟨n5,rfl,hl5,hu5⟩,p6,q6,rfl,⟨n6,rfl,hl6,hu6⟩,p7,q7,rfl,⟨n7,rfl,hl7,hu7⟩,p8,q8,rfl,⟨n8,rfl,hl8,hu8⟩,p9,q9,rfl,⟨n9,rfl,hl9,hu9⟩,p10,q10,rfl,⟨n10,rfl,hl10,hu10⟩,p11,q11,rfl,⟨n11,rfl,hl11,hu11⟩,p12,q12,rfl,⟨n12,rfl,hl12,hu12⟩,p13,q13,rfl,⟨n13,rfl,hl13,hu13⟩,p14,q14,rfl,⟨b14,rfl⟩,p15,q15,rfl,⟨n15,rfl,hl15,hu15⟩,p16,q16,rfl,⟨s16,rfl,hs16⟩,p17,q17,rfl,⟨s17,rfl,hs17⟩,p18,q18,rfl,⟨n18,rfl,hl18,hu18⟩,p19,q19,rfl,⟨n19,rfl,hl19,hu19⟩,p20,q20,rfl,⟨b20,rfl⟩,rfl⟩:=h
  exact ⟨DataSet.mk n0 n1 n2 n3 n4 n5 n6 n7 n8 n9 n10 n11 n12 n13 b14 n15 s16 s17 n18 n19 b20,rfl,⟨hl0,hu0⟩,⟨hl1,hu1⟩,⟨hl2,hu2⟩,⟨hl3,hu3⟩,⟨hl4,hu4⟩,⟨hl5,hu5⟩,⟨hl6,hu6⟩,⟨hl7,hu7⟩,⟨hl8,hu8⟩,⟨hl9,hu9⟩,⟨hl10,hu10⟩,⟨hl11,hu11⟩,⟨hl12,hu12⟩,⟨hl13,hu13⟩,⟨hl15,hu15⟩,hs16,hs17,⟨hl18,hu18⟩,⟨hl19,hu19⟩⟩
def _root_.Go.Proofs.YtggobegaiijhhaaGreatDoor.Binding.okW (w:World) (a:Binding):Prop:=RO [] w a.LinesA (a.Lines.map vS)∧a.Lines.length≤9223372036854775807
set_option maxRecDepth 20000 in
theorem op27:OpenAt Tryz.prog 27 fun w cs=>∃ a:Binding,cs=((Binding.enc a).drop 0).take 35∧Binding.okW w a:=by
  intro H enc w fuel cs x h
  have h:=open_struct Tryz.underlying27 (.cons (by kernel_rfl) (open_s Tryz.underlying9) (.cons (by kernel_rfl) (open_s Tryz.underlying9) (.cons (by kernel_rfl) (open_b Tryz.underlying4) (.cons (by kernel_rfl) (open_i Tryz.underlying3) (.cons (by kernel_rfl) (open_s Tryz.underlying9) (.cons (by kernel_rfl) (open_s Tryz.underlying9) (.cons (by kernel_rfl) (open_i Tryz.underlying3) (.cons (by kernel_rfl) (open_i Tryz.underlying3) (.cons (by kernel_rfl) (open_i Tryz.underlying3) (.cons (by kernel_rfl) op24 (.cons (by kernel_rfl) (open_i Tryz.underlying3) (.cons (by kernel_rfl) (open_i Tryz.underlying3) (.cons (by kernel_rfl) (open_b Tryz.underlying4) (.cons (by kernel_rfl) (open_sl (f:=fun s:Bytes=>[vS s]) Tryz.underlying25 (by kernel_rfl) (fun _=>rfl) (open_s Tryz.underlying9)) (.cons (by kernel_rfl) (open_b Tryz.underlying4) (.nil (by kernel_rfl))))))))))))))))) H enc w fuel cs x h
  obtain ⟨p0,q0,rfl,⟨s0,rfl,hs0⟩,p1,q1,rfl,⟨s1,rfl,hs1⟩,p2,q2,rfl,⟨b2,rfl⟩,p3,q3,rfl,⟨n3,rfl,hl3,hu3⟩,p4,q4,rfl,⟨s4,rfl,hs4⟩,p5,q5,rfl,⟨s5,rfl,hs5⟩,p6,q6,rfl,⟨n6,rfl,hl6,hu6⟩,p7,q7,rfl,⟨n7,rfl,hl7,hu7⟩,p8,q8,rfl,⟨n8,rfl,hl8,hu8⟩,p9,q9,rfl,⟨d9,rfl,hd9⟩,p10,q10,rfl,⟨n10,rfl,hl10,hu10⟩,p11,q11,rfl,⟨n11,rfl,hl11,hu11⟩,p12,q12,rfl,⟨b12,rfl⟩,p13,q13,rfl,⟨A13,c13,xs13,rfl,hR13,hl13,hB13⟩,p14,q14,rfl,⟨b14,rfl⟩,rfl⟩:=h
  exact ⟨{ (default:Binding) with Name:=s0,Data:=s1,Group:=b2,Relative:=n3,Step:=s4,From:=s5,Status:=n6,Normal:=n7,Abnormal:=n8,DSet:=d9,Tracks:=n10,More:=n11,Inline:=b12,Lines:=xs13,LinesA:=A13,LinesC:=c13,Dummy:=b14 },rfl,⟨by simpa only [map_flat] using hR13,hl13⟩⟩
set_option maxRecDepth 20000 in
theorem op31:OpenAt Tryz.prog 31 fun w cs=>∃ a:Binding,cs=((Binding.enc a).drop 36).take 33∧Binding.okW w a:=by
  intro H enc w fuel cs x h
  have h:=open_struct Tryz.underlying31 (.cons (by kernel_rfl) (open_i Tryz.underlying3) (.cons (by kernel_rfl) (open_s Tryz.underlying9) (.cons (by kernel_rfl) op24 (.cons (by kernel_rfl) (open_cap Tryz.underlying28) (.cons (by kernel_rfl) (open_i Tryz.underlying3) (.cons (by kernel_rfl) (open_i Tryz.underlying3) (.cons (by kernel_rfl) (open_i Tryz.underlying3) (.cons (by kernel_rfl) (open_b Tryz.underlying4) (.cons (by kernel_rfl) (open_s Tryz.underlying9) (.cons (by kernel_rfl) (open_s Tryz.underlying9) (.cons (by kernel_rfl) (open_i Tryz.underlying3) (.cons (by kernel_rfl) (open_i Tryz.underlying3) (.cons (by kernel_rfl) (open_cap Tryz.underlying29) (.nil (by kernel_rfl))))))))))))))) H enc w fuel cs x h
  obtain ⟨p0,q0,rfl,⟨n0,rfl,hl0,hu0⟩,p1,q1,rfl,⟨s1,rfl,hs1⟩,p2,q2,rfl,⟨d2,rfl,hd2⟩,p3,q3,rfl,⟨A3,l3,c3,rfl,hc3⟩,p4,q4,rfl,⟨n4,rfl,hl4,hu4⟩,p5,q5,rfl,⟨n5,rfl,hl5,hu5⟩,p6,q6,rfl,⟨n6,rfl,hl6,hu6⟩,p7,q7,rfl,⟨b7,rfl⟩,p8,q8,rfl,⟨s8,rfl,hs8⟩,p9,q9,rfl,⟨s9,rfl,hs9⟩,p10,q10,rfl,⟨n10,rfl,hl10,hu10⟩,p11,q11,rfl,⟨n11,rfl,hl11,hu11⟩,p12,q12,rfl,⟨A12,l12,c12,rfl,hc12⟩,rfl⟩:=h
  exact ⟨{ (default:Binding) with Kind:=n0,EName:=s1,EData:=d2,AltsA:=A3,AltsN:=l3,AltsC:=c3,Used:=n4,Limit:=n5,Last:=n6,Empty:=b7,Owner:=s8,Target:=s9,Catalog:=n10,Level:=n11,GrantsA:=A12,GrantsN:=l12,GrantsC:=c12 },rfl,⟨RO.nil,Nat.zero_le _⟩⟩
set_option maxRecDepth 20000 in
theorem op33:OpenAt Tryz.prog 33 fun w cs=>∃ a:Binding,cs=Binding.enc a∧Binding.okW w a:=by
  intro H enc w fuel cs x h
  have h:=open_struct Tryz.underlying33 (.cons (by kernel_rfl) op27 (.cons (by kernel_rfl) (open_s Tryz.underlying9) (.cons (by kernel_rfl) op31 (.cons (by kernel_rfl) (open_b Tryz.underlying4) (.cons (by kernel_rfl) op24 (.nil (by kernel_rfl))))))) H enc w fuel cs x h
  obtain ⟨p0,q0,rfl,⟨a0,rfl,hd0⟩,p1,q1,rfl,⟨s1,rfl,hs1⟩,p2,q2,rfl,⟨a2,rfl,hd2⟩,p3,q3,rfl,⟨b3,rfl⟩,p4,q4,rfl,⟨d4,rfl,hd4⟩,rfl⟩:=h
  exact ⟨Binding.mk a0.Name a0.Data a0.Group a0.Relative a0.Step a0.From a0.Status a0.Normal a0.Abnormal a0.DSet a0.Tracks a0.More a0.Inline a0.Lines a0.LinesA a0.LinesC a0.Dummy s1 a2.Kind a2.EName a2.EData a2.AltsA a2.AltsN a2.AltsC a2.Used a2.Limit a2.Last a2.Empty a2.Owner a2.Target a2.Catalog a2.Level a2.GrantsA a2.GrantsN a2.GrantsC b3 d4,rfl,hd0⟩
end Ty
end Go.Proofs.YtggobegaiijhhaaGreatDoor
