/- GvM, GvR, GvW, GvT, GvN, GvI, GvK in one text. -/
import Derived.Test.YtggobegaiijhhaaGreatDoorUtilitySorts3
import Derived.MapKept
import Derived.Laws.IdiomRangeMap
import Derived.Sort.Row
import Derived.Sort.Grow
import Derived.ChangeKeysEq
set_option linter.unusedVariables false
set_option linter.unusedSimpArgs false
namespace Go.GV
open Go.RowKit Go.MapKept
structure MapK {κ:Type} (P:Program) (kt:TypeId) (f:κ→Value):Prop where
  ex:∃ d,P.underlying kt=some d∧(∀ a,IsKey d (f a)) ∧ ∀ a b,f a=f b→a=b
theorem mapK_i {P:Program} {kt:TypeId} (h:P.underlying kt=some (.int .i64)):MapK P kt vI:=⟨_,h,fun _=>rfl,fun a b h=>by simpa using h⟩
theorem mapK_s {P:Program} {kt:TypeId} (h:P.underlying kt=some .string):MapK P kt vS:=⟨_,h,fun _=>trivial,fun a b h=>by simpa using h⟩
def Born (es:Array MapEntry) (clock:Nat):Prop:=(es.toList.map (·.born)).Nodup ∧ ∀ e∈es.toList,e.born<clock
theorem Born.nil:Born #[] 0:=⟨List.nodup_nil,fun _ h=>by simp at h⟩
theorem Born.push {es:Array MapEntry} {clock:Nat} (h:Born es clock) (k v:Value):Born (es.push ⟨k,v,clock⟩) (clock+1):=by
  refine ⟨?_,fun e he=>?_⟩
  · rw [Array.toList_push,List.map_append,List.nodup_append]
    refine ⟨h.1,by simp,fun a ha b hb=>?_⟩
    simp only [List.map_cons,List.map_nil,List.mem_singleton] at hb
    subst hb
    obtain ⟨e,he,rfl⟩:=List.mem_map.1 ha
    have:=h.2 e he
    omega
  · rw [Array.toList_push,List.mem_append,List.mem_singleton] at he
    rcases he with he | rfl
    · have:=h.2 e he;omega
    · exact Nat.lt_succ_self _
theorem Born.modify {es:Array MapEntry} {clock:Nat} (h:Born es clock) (i:Nat) (g:MapEntry→MapEntry) (hg:∀ e,(g e).born=e.born):Born (es.modify i g) clock:=by
  have e1:(es.modify i g).toList.map (·.born)=es.toList.map (·.born):=by
    apply List.ext_getElem?
    intro j
    simp only [Array.toList_modify,List.getElem?_map,List.getElem?_modify]
    by_cases hij:i=j
    · subst hij
      cases es.toList[i]? <;> simp [hg]
    · simp [hij]
  refine ⟨by rw [e1];exact h.1,fun e he=>?_⟩
  have:e.born∈es.toList.map (·.born):=by rw [← e1];exact List.mem_map.2 ⟨e,he,rfl⟩
  obtain ⟨e',he',h2⟩:=List.mem_map.1 this
  have:=h.2 e' he'
  omega
def Ent.mp {κ:Type} (f:κ→Value) (b:Nat) (l:List (κ × Value)):Ent:=
  ⟨some b,fun o=>∃ es clock,o=some (.map es clock)∧es.toList.map (fun e=>(e.key,e.val))=l.map (fun p=>(f p.1,p.2))∧Born es clock⟩
def lk {κ:Type} [DecidableEq κ]:List (κ × Value)→κ→Option Value
  | [],_=>none
  | (a,v)::l,k=>if k=a then some v else lk l k
def upd {κ:Type} [DecidableEq κ]:List (κ × Value)→κ→Value→List (κ × Value)
  | [],k,v=>[(k,v)]
  | (a,u)::l,k,v=>if k=a then (k,v)::l else (a,u)::upd l k v
section
variable {κ:Type} [DecidableEq κ] {a k:κ} {v u:Value} {l:List (κ × Value)} {r:Option Value}
theorem lk_nil:lk [] k=none:=rfl
theorem lk_hit (h:k=a):lk ((a,v)::l) k=some v:=if_pos h
theorem lk_ne (h:k≠a) (hr:lk l k=r):lk ((a,v)::l) k=r:=(if_neg h).trans hr
theorem upd_new (h:lk l k=none):upd l k v=l++[(k,v)]:=by
  induction l with
  | nil=>rfl
  | cons p l ih =>
    obtain ⟨a,u⟩:=p
    unfold lk at h
    split at h
    · cases h
    · rename_i hne
      unfold upd
      rw [if_neg hne,ih h];rfl
theorem find_lk {d:TypeDesc} {f:κ→Value} (hd:∀ a,IsKey d (f a)) (hi:∀ a b,f a=f b→a=b) (k:κ):∀ (es:List MapEntry) (l:List (κ × Value)) (i:Nat),es.map (fun e=>(e.key,e.val))=l.map (fun p=>(f p.1,p.2)) →
    (Instr.findNow d (f k) es i=some none∧lk l k=none) ∨ ∃ j v,Instr.findNow d (f k) es i=some (some (i+j,v))∧lk l k=some v∧(∃ e,es[j]? = some e∧e.key=f k) ∧ ∀ u,(upd l k u).map (fun p=>(f p.1,p.2))=(l.map (fun p=>(f p.1,p.2))).set j (f k,u)
  | [],[],i,_=>.inl ⟨rfl,rfl⟩
  | [],_::_,i,h=>by cases h
  | _::_,[],i,h=>by cases h
  | e::es,(a,v)::l,i,h=>by
    simp only [List.map_cons,List.cons.injEq,Prod.mk.injEq] at h
    obtain ⟨⟨h1,h2⟩,h3⟩:=h
    obtain ⟨r,hr,hiff⟩:=sameNow_of_keys (hd k) (h1 ▸ hd a:IsKey d e.key)
    cases r with
    | true =>
      have hk:k=a:=hi _ _ ((hiff.1 rfl).trans h1)
      refine .inr ⟨0,v,by simp [Instr.findNow,hr,h2],by rw [lk,if_pos hk],⟨e,rfl,(hiff.1 rfl).symm⟩,fun u=>?_⟩
      simp [upd,if_pos hk]
    | false =>
      have hne:k≠a:=fun q=>by have:=hiff.2 (by rw [h1,q]);cases this
      rcases find_lk hd hi k es l (i+1) h3 with ⟨x1,x2⟩ | ⟨j,u,x1,x2,x3,x4⟩
      · exact .inl ⟨by simp [Instr.findNow,hr,x1],by rw [lk,if_neg hne,x2]⟩
      · refine .inr ⟨j+1,u,by simp [Instr.findNow,hr,x1];omega,by rw [lk,if_neg hne,x2],by simpa using x3,fun u=>?_⟩
        rw [upd,if_neg hne,List.map_cons,x4 u];rfl
end
theorem mp_at {κ:Type} {f:κ→Value} {b:Nat} {l:List (κ × Value)} {w:World} (h:(Ent.mp f b l).at w):∃ es clock,w.heap[b]? = some (.map es clock)∧es.toList.map (fun e=>(e.key,e.val))=l.map (fun p=>(f p.1,p.2))∧Born es clock:=by
  simpa [Ent.at,Ent.mp] using h.1
section
variable {E:Env} {P:Program} {x y z:Operand} {dst:Option Nat} {t t' ty u:TypeId} {pos:String} {af:Array Edge} {g:Option (Nat × Bool)} {κ:Type} [DecidableEq κ]
theorem run_lookup_mp {f:κ→Value} {b:Nat} {l:List (κ × Value)} {w:World} {kt et:TypeId} {zv:Value} {k:κ} (hat:(Ent.mp f b l).at w) (ht:P.underlying t=some (.map kt et)) (hK:MapK P kt f) (hz:zeroIs P et=some zv) (ok:Bool) :
    (Instr.lookup t (.map (some b)) (f k) ok).run P w = .ok (if ok then .tuple #[(lk l k).getD zv,.bool (lk l k).isSome] else (lk l k).getD zv) w:=by
  obtain ⟨es,clock,hb,hes,hborn⟩:=mp_at hat
  obtain ⟨d,hd,hkey,hinj⟩:=hK.ex
  unfold Instr.lookup
  simp only [Sem.run_bind,run_underlying ht,Result.andThen_ok,MapKept.run_getObj_map hb,Sem.run_pure,MapKept.run_checkKey hd (hkey k)]
  rcases find_lk hkey hinj k es.toList l 0 hes with ⟨h1,h2⟩ | ⟨j,v,h1,h2,_⟩
  · simp only [MapKept.run_findKey hd h1,Result.andThen_ok,Sem.run_bind,run_zeroValue_is hz,Sem.run_pure,h2]
    cases ok <;> rfl
  · simp only [MapKept.run_findKey hd h1,Result.andThen_ok,Sem.run_bind,Sem.run_pure,h2]
    cases ok <;> rfl
theorem x_lookup_ok {S:List Nat} {w0:World} {L:List Ent} (j:Nat) {f:κ→Value} {b:Nat} {l:List (κ × Value)} {kt et:TypeId} {zv:Value} {k:κ} {r:Option Value} (hx:ev E x = .map (some b)) (hy:ev E y=f k) (hj:L[j]? = some (Ent.mp f b l)) (ht:P.underlying t=some (.map kt et)) (hK:MapK P kt f) (hz:zeroIs P et=some zv) (hr:lk l k=r) :
    ∀ w,St S w0 w L→(execOp (ev E) ⟨dst,.lookup t x y true,ty,pos,af,g⟩).run P w = .ok (.value (.tuple #[r.getD zv,vB r.isSome])) w:=by
  intro w hS
  subst hr
  simp only [execOp,hx,hy]
  show Sem.run P (do let v ← Instr.lookup t (.map (some b)) (f k) true;pure (Next.value v)) w=_
  rw [Sem.run_bind,run_lookup_mp (k:=k) (hS.mem hj) ht hK hz true];rfl
theorem x_lookup {S:List Nat} {w0:World} {L:List Ent} (j:Nat) {f:κ→Value} {b:Nat} {l:List (κ × Value)} {kt et:TypeId} {zv:Value} {k:κ} {r:Option Value} (hx:ev E x = .map (some b)) (hy:ev E y=f k) (hj:L[j]? = some (Ent.mp f b l)) (ht:P.underlying t=some (.map kt et)) (hK:MapK P kt f) (hz:zeroIs P et=some zv) (hr:lk l k=r) :
    ∀ w,St S w0 w L→(execOp (ev E) ⟨dst,.lookup t x y false,ty,pos,af,g⟩).run P w = .ok (.value (r.getD zv)) w:=by
  intro w hS
  subst hr
  simp only [execOp,hx,hy]
  show Sem.run P (do let v ← Instr.lookup t (.map (some b)) (f k) false;pure (Next.value v)) w=_
  rw [Sem.run_bind,run_lookup_mp (k:=k) (hS.mem hj) ht hK hz false];rfl
theorem x_lookup_v {S:List Nat} {w0:World} {L:List Ent} (j:Nat) {f:κ→Value} {b:Nat} {l:List (κ × Value)} {kt et:TypeId} {zv v:Value} {k:κ} {r:Option Value} (hx:ev E x = .map (some b)) (hy:ev E y=f k) (hj:L[j]? = some (Ent.mp f b l)) (ht:P.underlying t=some (.map kt et)) (hK:MapK P kt f) (hz:zeroIs P et=some zv) (hr:lk l k=r) (hv:r.getD zv=v) :
    ∀ w,St S w0 w L→(execOp (ev E) ⟨dst,.lookup t x y false,ty,pos,af,g⟩).run P w = .ok (.value v) w:=by
  subst hv;exact x_lookup j hx hy hj ht hK hz hr
omit [DecidableEq κ] in
theorem O_makeMap {S:List Nat} {w0:World} {L:List Ent} {K:Value→List Ent→Prop} (f:κ→Value) (k:∀ b,K (.map (some b)) (Ent.mp f b []::L)):OpJ P S w0 E L ⟨dst,.makeMap t none,ty,pos,af,g⟩ K:=by
  intro w hS
  refine ⟨_,_,_,.inl ?_,hS.alloc (.map #[] 0) (Ent.mp f w.heap.size []) rfl ⟨_,_,rfl,rfl,Born.nil⟩,k w.heap.size⟩
  have hr:(Instr.makeMap t none).run P w = .ok (.map (some w.heap.size)) (w.alloc (.map #[] 0)):=by
    simp [Instr.makeMap,newObj,Sem.run]
  simp only [execOp]
  show Sem.run P (do let v ← Instr.makeMap t none;pure (Next.value v)) w=_
  rw [Sem.run_bind,hr];rfl
theorem run_update_mp {f:κ→Value} {b:Nat} {l:List (κ × Value)} {w:World} {kt et:TypeId} {k:κ} {v:Value} (hat:(Ent.mp f b l).at w) (ht:P.underlying t=some (.map kt et)) (hK:MapK P kt f) :
    ∃ w',(Instr.mapUpdate t (.map (some b)) (f k) v).run P w = .ok () w'∧Fr [b] w w'∧(Ent.mp f b (upd l k v)).prop w'.heap[b]?:=by
  obtain ⟨es,clock,hb,hes,hborn⟩:=mp_at hat
  obtain ⟨d,hd,hkey,hinj⟩:=hK.ex
  have fr:∀ o,Fr [b] w { w with heap:=w.heap.setIfInBounds b o }:=fun o=>⟨rfl,rfl,rfl,by simp,fun i hi hn=>(MapKept.heap_set (o':=o) hb).2 i (by simpa using hn)⟩
  unfold Instr.mapUpdate
  simp only [Sem.run_bind,run_underlying ht,Result.andThen_ok,MapKept.run_getObj_map hb,MapKept.run_checkKey hd (hkey k)]
  rcases find_lk hkey hinj k es.toList l 0 hes with ⟨h1,h2⟩ | ⟨j,v',h1,h2,⟨e,he,hek⟩,h4⟩
  · simp only [MapKept.run_findKey hd h1,Result.andThen_ok,MapKept.run_setObj_map _ hb]
    refine ⟨_,rfl,fr _,_,_,(MapKept.heap_set hb).1,?_,hborn.push _ _⟩
    rw [upd_new h2]
    simp [hes]
  · have he':es[j]? = some e:=by simpa using he
    simp only [MapKept.run_findKey hd h1,Result.andThen_ok,Nat.zero_add,he',Option.map_some,Option.getD_some,hek,MapKept.run_keyThatStays (hkey k),MapKept.run_setObj_map _ hb,Sem.run_bind]
    refine ⟨_,rfl,fr _,_,_,(MapKept.heap_set hb).1,?_,hborn.modify _ _ fun _=>rfl⟩
    rw [h4 v,← hes]
    apply List.ext_getElem?
    intro i
    simp only [Array.toList_modify,List.getElem?_map,List.getElem?_modify,List.getElem?_set,List.length_map]
    by_cases hij:j=i
    · subst hij
      have hlt:j<es.toList.length:=(List.getElem?_eq_some_iff.1 he).1
      have hlt':j<es.size:=by simpa using hlt
      simp [hlt']
    · simp [hij]
theorem O_mapUpdate {S:List Nat} {w0:World} {L:List Ent} {K:Value→List Ent→Prop} (j:Nat) {f:κ→Value} {b:Nat} {l:List (κ × Value)} {kt et:TypeId} {k:κ} {v:Value} (l':List (κ × Value)) (L':List Ent) (hx:ev E x = .map (some b)) (hy:ev E y=f k) (hz:ev E z=v) (hj:L[j]? = some (Ent.mp f b l)) (ht:P.underlying t=some (.map kt et)) (hK:MapK P kt f)
    (hl:upd l k v=l') (hL:L.set j (Ent.mp f b l')=L') (kk:K undef L'):OpJ P S w0 E L ⟨dst,.mapUpdate t x y z,ty,pos,af,g⟩ K:=by
  intro w hS
  subst hl;subst hL
  obtain ⟨w',hr,hF,hB⟩:=run_update_mp (P:=P) (t:=t) (k:=k) (v:=v) (hS.mem hj) ht hK
  refine ⟨undef,_,w',.inr ⟨?_,rfl⟩,hS.writeAt hj b rfl rfl hF hB,kk⟩
  simp only [execOp,hx,hy,hz]
  show Sem.run P (do Instr.mapUpdate t (.map (some b)) (f k) v;pure Next.skip) w=_
  rw [Sem.run_bind,hr];rfl
theorem O_insert {S:List Nat} {w0:World} {L:List Ent} {K:Value→List Ent→Prop} (j:Nat) {f:κ→Value} {b:Nat} {l:List (κ × Value)} {kt et:TypeId} {k:κ} {v:Value} (l':List (κ × Value)) (L':List Ent) (hx:ev E x = .map (some b)) (hy:ev E y=f k) (hz:ev E z=v) (hj:L[j]? = some (Ent.mp f b l)) (ht:P.underlying t=some (.map kt et)) (hK:MapK P kt f)
    (hl:upd l k v=l') (hL:L.set j (Ent.mp f b l')=L') (kk:K undef L'):OpJ P S w0 E L ⟨dst,.insert t x y z,ty,pos,af,g⟩ K:=by
  intro w hS
  subst hl;subst hL
  obtain ⟨w',hr,hF,hB⟩:=run_update_mp (P:=P) (t:=t) (k:=k) (v:=v) (hS.mem hj) ht hK
  refine ⟨undef,_,w',.inr ⟨?_,rfl⟩,hS.writeAt hj b rfl rfl hF hB,kk⟩
  simp only [execOp,hx,hy,hz]
  show Sem.run P (do Instr.mapUpdate t (.map (some b)) (f k) v;pure Next.skip) w=_
  rw [Sem.run_bind,hr];rfl
end
section
variable {E:Env} {P:Program} {w:World} {x y:Operand} {dst:Option Nat} {t t' ty:TypeId} {pos:String} {af:Array Edge} {g:Option (Nat × Bool)}
def isFn:Value→Bool
  | .func ..=>true
  | _=>false
theorem run_eqIn_nil {p q:Array TypeId} {v:Bool} (d:Nat) (ht:P.underlying t=some (.func p q v)):(Op.equalIn (d+1) t .nilFunc .nilFunc).run P w = .ok true w:=by
  unfold Op.equalIn
  simp only [Sem.run_bind,run_underlying ht,Result.andThen_ok];rfl
theorem run_eq_nil {p q:Array TypeId} {v:Bool} (ht:P.underlying t=some (.func p q v)):(Op.equal t .nilFunc .nilFunc).run P w = .ok true w:=run_eqIn_nil 9999 ht
end
end Go.GV
namespace Go.GV
open Go.RowKit Go.MapKept
def Ent.mx (b:Nat) (es:Array MapEntry) (clock:Nat):Ent:=⟨some b,fun o=>o=some (.map es clock)⟩
def Ent.rng {κ:Type} (f:κ→Value) (b bm:Nat) (es:Array MapEntry) (clock:Nat) (left:List (κ × Value)) (cur:Option (κ × Value)):Ent:=
  ⟨some b,fun o=>∃ seen,o=some (.mapIter (some bm) clock seen clock)∧(leftOf es seen).toList.map (fun e=>(e.key,e.val))=left.map (fun p=>(f p.1,p.2)) ∧ ∀ p,cur=some p → ∃ e∈es.toList,seen.back? = some e.born∧e.key=f p.1∧e.val=p.2⟩
def Holds' {κ:Type} (f:κ→Value) (es:Array MapEntry) (l:List (κ × Value)):Prop:=es.toList.map (fun e=>(e.key,e.val))=l.map (fun p=>(f p.1,p.2))
section
variable {E:Env} {P:Program} {x:Operand} {dst:Option Nat} {t ty:TypeId} {pos:String} {af:Array Edge} {g:Option (Nat × Bool)} {κ:Type}
end
def wpV (a:Nat) (o:Nat):Value:=.pointer (some ⟨a,o,none⟩)
def putV:List Value→List Nat→List Int→Nat→List Value
  | cs,[],_,_=>cs
  | cs,o::os,vs,i=>putV (cs.set o (vI (vs.getD i 0))) os vs (i+1)
section
variable {E:Env} {P:Program} {x y:Operand} {dst:Option Nat} {t ty:TypeId} {pos:String} {af:Array Edge} {g:Option (Nat × Bool)}
end
def kT {κ:Type} (s:κ):κ × Value:=(s,vB true)
section
variable {κ:Type} [DecidableEq κ]
def addK (l:List κ) (s:κ):List κ:=if s∈l then l else l++[s]
def hasK (l:List κ) (s:κ):Bool:=decide (s∈l)
end
end Go.GV
namespace Go.GV
open Go.RowKit
theorem set_len {α:Type} (xs:List α) (k:Nat) (a:α):(xs.set k a).length=xs.length:=List.length_set
theorem splice_take {α:Type} : ∀ (vs cs:List α) (k m:Nat),k+vs.length≤m→(splice cs k vs).take m=splice (cs.take m) k vs
  | [],_,_,_,_=>rfl
  | v::vs,cs,k,m,h=>by
    rw [List.length_cons] at h
    rw [splice,splice,splice_take vs _ (k+1) m (by omega),List.take_set]
theorem splice_flat {α:Type} (f:α→List Value) (sz:Nat) (hf:∀ a,(f a).length=sz):∀ (xs:List α) (k:Nat) (a:α),k<xs.length→splice (xs.flatMap f) (k*sz) (f a)=(xs.set k a).flatMap f
  | [],_,_,h=>by simp at h
  | x::xs,0,a,_=>by
    rw [Nat.zero_mul,List.flatMap_cons,List.set_cons_zero,List.flatMap_cons,splice_eq _ _ _ (by rw [hf,List.length_append,hf];omega),hf,Nat.zero_add,List.take_zero,List.nil_append,List.drop_left' (hf x)]
  | x::xs,k+1,a,h=>by
    have h':k<xs.length:=by simpa using h
    have ih:=splice_flat f sz hf xs k a h'
    have hl:=flat_length f sz hf xs
    have hb:k*sz+sz≤xs.length*sz:=by
      have:=Nat.mul_le_mul_right sz h'
      rw [Nat.succ_mul] at this;exact this
    rw [List.set_cons_succ,List.flatMap_cons,List.flatMap_cons,← ih]
    rw [splice_eq _ _ _ (by rw [hf,List.length_append,hf,hl,Nat.succ_mul];omega),splice_eq _ _ _ (by rw [hf,hl];omega)]
    rw [hf,Nat.succ_mul,Nat.add_comm (k*sz) sz,List.take_append,List.drop_append,hf]
    rw [List.take_of_length_le (by rw [hf];omega),List.drop_of_length_le (by rw [hf];omega)]
    simp only [List.nil_append,List.append_assoc]
    rw [show sz+k*sz-sz=k*sz by omega,show sz+k*sz+sz-sz=k*sz+sz by omega,Nat.add_comm (k*sz) sz]
section
variable {E:Env} {P:Program} {x y:Operand} {dst:Option Nat} {t ty:TypeId} {pos:String} {af:Array Edge} {g:Option (Nat × Bool)}
theorem O_store_row_g {α:Type} {S:List Nat} {w0:World} {L:List Ent} {K:Value→List Ent→Prop} (j:Nat) (f:α→List Value) {A:Option Addr} {c k sz:Nat} {te:TypeId} {xs:List α} {a:α} {v:Value} (L':List Ent)
    (hx:ev E x = .pointer (some (adr A (k*sz)))) (hy:ev E y=v) (hv:v.cells.toList=f a) (hj:L[j]? = some (Ent.row (.slice A xs.length c) te sz xs.length (xs.flatMap f))) (hn:sizeIs P t=some sz) (hf:∀ a,(f a).length=sz) (h1:∀ a,(f a).all Value.oneCell'=true) (hk:k<xs.length)
    (hL:L.set j (Ent.row (.slice A (xs.set k a).length c) te sz (xs.set k a).length ((xs.set k a).flatMap f))=L') (kk:K undef L'):OpJ P S w0 E L ⟨dst,.store t x y,ty,pos,af,g⟩ K:=by
  intro w hS
  subst hL
  have hat:=hS.mem hj
  have hfl:=flat_length f sz hf xs
  have hb:k*sz+sz≤xs.length*sz:=by
    have:=Nat.mul_le_mul_right sz hk
    rw [Nat.succ_mul] at this;exact this
  rcases hat.1.2 with ⟨h2,h3⟩ | ⟨gb,cap,cur,h2,ho,hcap,hmax,hcs,htk⟩
  · omega
  · simp only [Value.slice.injEq] at h2
    obtain ⟨rfl,_,rfl⟩:=h2
    have ho':w.heap[gb]? = some (.cells cur te (0,0)):=by simpa [Ent.row,Value.ownBlock] using ho
    have hblk:(Ent.blk gb te cur.toList).at w:=by
      refine ⟨⟨?_,.inl (Nat.le_refl _)⟩,fun b hb2=>?_⟩
      · show w.heap[gb]? = _
        rw [ho']
      · cases hb2
        exact (Array.getElem?_eq_some_iff.1 ho').1
    have hvl:v.cells.toList.length=sz:=by rw [hv];exact hf a
    have hcl:xs.length*sz≤cur.toList.length:=by
      have e1:=Nat.mul_le_mul_right sz hcap
      have e2:cur.toList.length=c*sz:=hcs
      omega
    have hadr:adr (some ⟨gb,0,none⟩) (k*sz)=⟨gb,k*sz,none⟩:=by
      simp [adr,Addr.add]
      exact fun h=>h.symm
    rw [hadr] at hx
    obtain ⟨w',hr,hF,hB⟩:=run_storeVar_blk (P:=P) (t:=t) (o:=k*sz) hblk hn hvl (by omega) (by rw [hv];exact h1 a)
    refine ⟨undef,_,w',.inr ⟨?_,rfl⟩,hS.writeAt hj gb rfl rfl hF ?_,kk⟩
    · simp only [execOp,hx,hy]
      show Sem.run P (do (do storeVar t (← Instr.sureAddr (.pointer (some ⟨gb,k*sz,none⟩))) v);pure Next.skip) w=_
      simp only [Instr.sureAddr,Sem.run_bind,Sem.run_pure,Result.andThen_ok,hr]
    · have hB1:w'.heap[gb]? = some (.cells (splice cur.toList (k*sz) (f a)).toArray te (0,0)):=by rw [← hv];exact hB.1
      have hsl:(splice cur.toList (k*sz) (f a)).length=cur.toList.length:=splice_length _ _ _
      refine ⟨flat_length f sz hf _,.inr ⟨gb,c,_,by rw [List.length_set],hB1,by rw [List.length_set];exact hcap,hmax,?_,?_⟩⟩
      · rw [List.size_toArray,hsl,Array.length_toList,hcs]
      · rw [List.length_set]
        show (splice cur.toList (k*sz) (f a)).take (xs.length*sz)=_
        rw [splice_take _ _ _ _ (by rw [hf];exact hb),htk,splice_flat f sz hf xs k a hk]
theorem O_store_row_f {α:Type} {S:List Nat} {w0:World} {L:List Ent} {K:Value→List Ent→Prop} (j:Nat) (f:α→List Value) {A:Option Addr} {c k sz:Nat} {te:TypeId} {xs:List α} {a:α} (L':List Ent)
    (hx:ev E x = .pointer (some (adr A (k*sz)))) (hy:ev E y = .agg (f a).toArray) (hj:L[j]? = some (Ent.row (.slice A xs.length c) te sz xs.length (xs.flatMap f))) (hn:sizeIs P t=some sz) (hf:∀ a,(f a).length=sz) (h1:∀ a,(f a).all Value.oneCell'=true) (hk:k<xs.length)
    (hL:L.set j (Ent.row (.slice A (xs.set k a).length c) te sz (xs.set k a).length ((xs.set k a).flatMap f))=L') (kk:K undef L'):OpJ P S w0 E L ⟨dst,.store t x y,ty,pos,af,g⟩ K:=
  O_store_row_g j f L' hx hy (by simp [Value.cells]) hj hn hf h1 hk hL kk
theorem map_flat {α:Type} (g:α→Value) (xs:List α):xs.map g=xs.flatMap fun a=>[g a]:=by
  induction xs with
  | nil=>rfl
  | cons a xs ih=>rw [List.map_cons,List.flatMap_cons,ih];rfl
end
end Go.GV
namespace Go.GV
theorem lt_ {p:Prop} (h:p:=by first | omega | (simp only [List.length_append,List.length_cons,List.length_nil];omega) | (simp;omega) | (simp_all;omega) | (simp_all;done)):p:=h
theorem hy_ {p:Prop} (h:p:=by first | omega | assumption | (simp only [List.length_append,List.length_cons,List.length_nil];omega) | (simp only [sub,List.length_drop,List.length_take];omega) | (simp;omega) | (simp_all;done) | (simp_all;omega) | decide):p:=h
theorem ix_nat {v:Value} {i:Int} {k:Nat} (hv:v=vI i) (h:i=(k:Int)):v = .int .i64 (k:Int):=by rw [hv,h]
theorem st_all {cs vs:List Value} {n:Nat} (h:Nat.ble cs.length (0+n)=true):cs.take 0++(vs++cs.drop (0+n))=vs:=by
  rw [List.drop_of_length_le (Nat.le_of_ble_eq_true h),List.append_nil];rfl
section
variable {n:Dim} {S:List Nat} {w0:World} {P:Program} {ops:Array Oper} {Q:Post} {E:Env} {L Lg Lu:List Ent} {us:List Nat} {fuel:Nat} {listed:Array Bool}
theorem jr_ {o:Oper} {rest:List Oper} (v:Value) (h:JO P n S w0 ops rest Q (put E o.dst v) L) (hfit:fit n E o=true:=by rfl) (hw:wants ops E o:=by exact trivial) (hr:∀ w,St S w0 w L→(execOp (ev E) o).run P w = .ok (.value v) w:=by exact fun _ _=>rfl):JO P n S w0 ops (o::rest) Q E L:=JO_read v hfit hw hr h
theorem js_ {o:Oper} {rest:List Oper} (v:Value) (hr:∀ {w},(execOp (ev E) o).run P w = .ok (.value v) w) (h:JO P n S w0 ops rest Q (put E o.dst v) L) (hfit:fit n E o=true:=by rfl) (hw:wants ops E o:=by exact trivial):JO P n S w0 ops (o::rest) Q E L:=JO_read v hfit hw (fun _ _=>hr) h
theorem jg_ {o:Oper} {rest:List Oper} {t b:Bool} {j:Nat} (hg:t=b) (v:Value) (hr:∀ {w},(execOp (ev E) o).run P w = .ok (.value v) w) (h:JO P n S w0 ops rest Q (put E o.dst v) L) (hfit:fit n E o=true:=by rfl) (h1:o.guard=some (j,b):=by rfl) (h2:gval ops E j=some t:=by rfl):JO P n S w0 ops (o::rest) Q E L:=JO_read v hfit (by unfold wants;rw [h1];exact ⟨t,h2,hg⟩) (fun _ _=>hr) h
theorem sh_ {o:Oper} {rest:List Oper} {t b:Bool} {j:Nat} (hg:t = !b) (h:JO P n S w0 ops rest Q (put E o.dst undef) L) (hd:dstOk n o.dst=true:=by rfl) (h1:o.guard=some (j,b):=by rfl) (h2:gval ops E j=some t:=by rfl):JO P n S w0 ops (o::rest) Q E L:=JO_shun hd (by unfold shuns;rw [h1];exact ⟨t,h2,hg⟩) h
theorem jt_ (i:Nat) {o:Oper} (v:Value) (hi:ops[i]? = some o) (hv:∀ w,St S w0 w Lg→(execOp (ev E) o).run P w = .ok (.value v) w) (h:JA P n S w0 ops Q Lg us Lu fuel (listed.setIfInBounds i true) (put E o.dst v) L)
    (hs:Region.noSelect ops=true:=by kernel_rfl) (hf:Region.free .any ops listed i=true:=by kernel_rfl) (hr:(Region.ready .any ops listed).contains i=true:=by kernel_rfl) (hu:us.contains i=false:=by rfl)
    (hQ:∀ c a w,Q (.panic c) (a.put o.dst v) w→Q (.panic c) a w:=by exact fun _ _ _ h=>h) (hfit:fit n E o=true:=by rfl) (hw:wants ops E o:=by exact trivial):JA P n S w0 ops Q Lg us Lu (fuel+1) listed E L:=JA_take i v hi hs hf hr hu hQ hfit hw hv h
end
end Go.GV
namespace Go.GV
open Go.RowKit Go.Sort
def Lown (L:List Ent):List Nat:=L.filterMap Ent.own
theorem lown_mem {L:List Ent} : ∀ b∈Lown L,∃ e∈L,e.own=some b:=fun b h=>by
  obtain ⟨e,he,ho⟩:=List.mem_filterMap.1 h
  exact ⟨e,he,ho⟩
theorem lown_in {L:List Ent} : ∀ e∈L,∀ b,e.own=some b→b∈Lown L:=fun e he _ ho=>List.mem_filterMap.2 ⟨e,he,ho⟩
section
variable {α:Type} [Inhabited α] {f:α→Value} {w:World} {e:TypeId} {c:Nat} {xs:List α}
omit [Inhabited α] in
theorem row_cap {A:Option Addr} (h:(Ent.row (.slice A xs.length c) e 1 xs.length (xs.map f)).at w):xs.length≤c∨(A=none∧xs=[]∧c=0):=by
  rcases (row_owns h).2 with ⟨h1,h2⟩ | ⟨g,cap,cur,h1,_,ho,h3,h4,h5,h6⟩
  · simp only [Value.slice.injEq] at h1
    exact .inr ⟨h1.1,List.length_eq_zero_iff.1 h2,h1.2.2⟩
  · cases h1
    exact .inl h3
end
def subA (A:Option Addr) (cap lo sz:Nat):Option Addr:=if cap=lo then A else A.map (·.add (lo*sz))
section
variable {E:Env} {P:Program} {w:World} {x y:Operand} {dst:Option Nat} {t t' ty e:TypeId} {pos:String} {af:Array Edge} {g:Option (Nat × Bool)}
theorem x_subrow {A:Option Addr} {len cap n lo hi:Nat} {olo ohi:Option Operand} (hx:ev E x = .slice A len cap) (ht:P.underlying t=some (.slice e)) (hn:sizeIs P e=some n) (hlo:olo.map (ev E)=some (vI (lo:Int))∨(olo.map (ev E)=none∧lo=0)) (hhi:ohi.map (ev E)=some (vI (hi:Int))∨(ohi.map (ev E)=none∧hi=len))
    (h1:lo≤hi) (h2:hi≤cap):(execOp (ev E) ⟨dst,.slice t x olo ohi none,ty,pos,af,g⟩).run P w = .ok (.value (.slice (subA A cap lo n) (hi-lo) (cap-lo))) w:=by
  have e1:(0:Int)≤(hi:Int)∧(hi:Int)≤((cap:Nat):Int):=by omega
  have e2:(0:Int)≤(lo:Int)∧(lo:Int)≤((hi:Nat):Int):=by omega
  have hr:(Instr.sliceAt t (.slice A len cap) (olo.map (ev E)) (ohi.map (ev E)) none).run P w = .ok (.slice (subA A cap lo n) (hi-lo) (cap-lo)) w:=by
    rcases hlo with hlo | ⟨hlo,rfl⟩ <;> rcases hhi with hhi | ⟨hhi,rfl⟩ <;> rw [hlo,hhi]
    · simp only [Instr.sliceAt,Instr.slice,Instr.sliceBounds,Instr.sliceBound,asIntOf,run_underlying ht,run_sizeOf_is hn,Sem.run_bind,Sem.run_pure,Result.andThen_ok,if_pos e1,if_pos e2,Int.toNat_natCast];rfl
    · simp only [Instr.sliceAt,Instr.slice,Instr.sliceBounds,Instr.sliceBound,asIntOf,run_underlying ht,run_sizeOf_is hn,Sem.run_bind,Sem.run_pure,Result.andThen_ok,if_pos e2,Int.toNat_natCast];rfl
    · simp only [Instr.sliceAt,Instr.slice,Instr.sliceBounds,Instr.sliceBound,asIntOf,run_underlying ht,run_sizeOf_is hn,Sem.run_bind,Sem.run_pure,Result.andThen_ok,if_pos e1,Int.toNat_natCast];rfl
    · simp only [Instr.sliceAt,Instr.slice,Instr.sliceBounds,run_underlying ht,run_sizeOf_is hn,Sem.run_bind,Sem.run_pure,Result.andThen_ok];rfl
  simp only [execOp,hx]
  show Sem.run P (do let v ← Instr.sliceAt t (.slice A len cap) (olo.map (ev E)) (ohi.map (ev E)) none;pure (Next.value v)) w=_
  rw [Sem.run_bind,hr];rfl
theorem row_le {A:Option Addr} {n c sz:Nat} {cs:List Value} (h:(Ent.row (.slice A n c) e sz n cs).at w):n≤c:=by
  rcases (row_owns h).2 with ⟨h1,h2⟩ | ⟨g,cap,cur,h1,_,ho,h3,h4,h5,h6⟩
  · omega
  · cases h1;exact h3
end
end Go.GV
namespace Go.GV
open Go.RowKit
def methIs (P:Program) (t:TypeId) (name:String):Option FuncId:=match P.info? t with
  | some i=>match i.methods.find? (·.name == name) with
    | some m=>if m.path.toList.isEmpty then (match m.func,P.underlying t with
      | some (f,false),some (.struct _)=>some f
      | _,_=>none) else none
    | none=>none
  | none=>none
section
variable {E:Env} {P:Program} {w:World} {x:Operand} {dst:Option Nat} {t ty:TypeId} {pos:String} {af:Array Edge} {g:Option (Nat × Bool)}
theorem x_iface {y:TypeId} {v:Value} (hx:ev E x=v) (hu:(match P.underlying y with | some (.interface _)=>false | some _=>true | none=>false)=true) :
    (execOp (ev E) ⟨dst,.makeInterface y x,ty,pos,af,g⟩).run P w = .ok (.value (.iface y v)) w:=by
  cases h:P.underlying y with
  | none=>rw [h] at hu;cases hu
  | some d =>
    rw [h] at hu
    simp only [execOp,hx,Instr.makeInterface,Sem.run_bind,run_underlying h,Result.andThen_ok]
    cases d <;> first | rfl | cases hu
end
end Go.GV
namespace Go.GV
open Go.RowKit
theorem RO.again {S:List Nat} {w0 w:World} {A:Option Addr} {cs:List Value} {L:List Ent} (h:RO S w0 A cs) (hS:St S w0 w L):RO (Lown L) w A cs:=
  h.on (Lc:=L) (Lr:=[]) (by rw [List.append_nil];exact hS) lown_mem
theorem RO.mono {S S':List Nat} {w:World} {A:Option Addr} {cs:List Value} (h:RO S w A cs) (hs:∀ b∈S',b∈S):RO S' w A cs:=fun j v hv=>by
  obtain ⟨a,e,hb,hn,hc⟩:=h j v hv
  exact ⟨a,e,hb,fun hh=>hn (hs _ hh),hc⟩
theorem RO.no {S:List Nat} {w:World} {A:Option Addr} {cs:List Value} (h:RO S w A cs):RO [] w A cs:=h.mono (fun _ hb=>by cases hb)
theorem RO.fromF {S F:List Nat} {w:World} {A:Option Addr} {cs:List Value} (h:RO (S++F) w A cs):RO S w A cs:=h.mono fun _ hb=>List.mem_append.2 (.inl hb)
theorem RO.freshF {S F:List Nat} {w:World} {A:Option Addr} {cs:List Value} (h:RO (S++F) w A cs):RO F w A cs:=h.mono fun _ hb=>List.mem_append.2 (.inr hb)
theorem RO.againF {S F:List Nat} {w0 w:World} {A:Option Addr} {cs:List Value} {L:List Ent} (h:RO (S++F) w0 A cs) (hS:St S w0 w L):RO (Lown L++F) w A cs:=fun j v hv=>by
  obtain ⟨a,e,hb,hn,hc⟩:=h.fromF.again hS j v hv
  refine ⟨a,e,hb,fun hh=>?_,hc⟩
  rcases List.mem_append.1 hh with hh | hh
  · exact hn hh
  · obtain ⟨a2,e2,_,hn2,_⟩:=h.freshF j v hv
    rw [e] at e2;injection e2 with e2;subst e2
    exact hn2 hh
theorem RO.of_rowF {S:List Nat} {w00 w0 w:World} {Lc Lr:List Ent} (hS:St S w0 w (Lc++Lr)) (h0:St [] w00 w (Lc++Lr)) (j:Nat) {e:TypeId} {sz n c:Nat} {A:Option Addr} {cs:List Value} (hj:Lr[j]? = some (Ent.row (.slice A n c) e sz n cs)):RO (Lown Lc++List.range w00.heap.size) w A cs:=fun jj v hv=>by
  obtain ⟨a,ha,hb,hn,hc⟩:=RO.of_rowS (Sc:=Lown Lc) hS lown_mem j hj jj v hv
  refine ⟨a,ha,hb,fun hh=>?_,hc⟩
  rcases List.mem_append.1 hh with hh | hh
  · exact hn hh
  · subst ha
    rcases h0.own _ (List.mem_append.2 (.inr (List.mem_of_getElem? hj))) a.block rfl with h1 | h1
    · cases h1
    · exact absurd (List.mem_range.1 hh) (by omega)
theorem lown_range {S:List Nat} {w0 w:World} {L:List Ent} (hS:St S w0 w L):∀ b∈Lown L,b∈List.range w.heap.size:=fun b hb=>by
  obtain ⟨e,he,ho⟩:=lown_mem b hb
  exact List.mem_range.2 ((hS.hold e he).2 b ho)
theorem St.back {S:List Nat} {w0 wb:World} {L0:List Ent} (h:St S w0 wb L0) (w:World) (L:List Ent) (h':St (Lown L0) wb w L):St S w0 w L:=by
  have:=St.after (Lc:=L0) (Lr:=[]) (by rw [List.append_nil];exact h) lown_mem h'
  rwa [List.append_nil] at this
theorem St.base {S:List Nat} {w0 w:World} {L:List Ent} (h:St S w0 w L):St (Lown L) w w L:=
  ⟨Fr.refl _ _,h.hold,h.dis,fun e he b hb=>.inl (lown_in e he b hb)⟩
def GivesW (S:List Nat) (w:World) (φ:Value→List Ent→World→Prop):Ending→World→Prop:=
  fun e w'=>∃ v L',e = .returned v∧φ v L' w'∧St S w w' L'
section
variable {P:Program} {n:Dim} {S:List Nat} {w0:World} {Q:Post} {E:Env} {L:List Ent}
theorem calls_JW {f:FuncId} {fn:Func} {c:Code} {args:Array Value} {w:World} {φ:Value→List Ent→World→Prop} {L0:List Ent} (S:List Nat) (n:Nat)
    (hf:P.funcs[f]? = some fn) (hb:fn.body=some c) (hm:fn.ntmps=n) (E:Env) (hE:E=envOf 0 args.toList) (hn:Nat.ble args.size n=true)
    (hg:Give S w L0) (h:J P { sz:=n } S w c (bodyPost P fn (GivesW S w φ)) E L0):Calls P f args w (GivesW S w φ):=by
  subst hm
  have hn:=Nat.le_of_ble_eq_true hn
  refine (callsIn_wide (n:=0)).1 (callsIn_of_wp (F:=Fence.wide) hf hb trivial (h _ w ⟨rfl,?_,?_⟩ hg.start) rfl)
  · simp;omega
  · intro t v hv
    rw [hE] at hv
    have h1:args[t]? = some v:=by have:=(get_envOf _ _ _ _ hv).2;simpa using this
    obtain ⟨hlt,h2⟩:=Array.getElem?_eq_some_iff.1 h1
    simp only [Array.getD_eq_getD_getElem?]
    rw [Array.getElem?_append_left hlt,h1]
    rfl
theorem JX_retsB {fn:Func} {rs:List ResultVar} {S1:List Nat} {w1:World} {φ:Value→List Ent→World→Prop} (vs:List Value) (v:Value) (hr:fn.results=rs.toArray) (hv:∀ w,St S w0 w L→resAll P E w rs vs)
    (hvv:v=(if h:vs.length=1 then vs[0] else .tuple vs.toArray)) (L':List Ent) (hL:∀ w,St S w0 w L→St S w0 w L') (hB:∀ w L,St S w0 w L→St S1 w1 w L) (hφ:∀ w,St S w0 w L'→φ v L' w) (hd:n.ds=[]:=by rfl) :
    JX n S w0 (bodyPost P fn (GivesW S1 w1 φ)) .ret E L:=by
  intro a w hR hS
  have h0:=JX_rets (P:=P) (n:=n) (S:=S) (w0:=w0) (E:=E) (L:=L) (φ:=fun u L2=>u=v∧L2=L') vs v hr hv hvv L' hL ⟨rfl,rfl⟩ hd a w hR hS
  obtain ⟨hd,u,hu,u2,L2,he,hp,hs⟩:=h0
  obtain ⟨rfl,rfl⟩:=hp
  exact ⟨hd,u,hu,u2,L2,he,hφ w hs,hB w _ hs⟩
theorem JX_retsC {fn:Func} {rs:List ResultVar} {S1:List Nat} {w1:World} {φ:Value→List Ent→Prop} (vs:List Value) (v:Value) (hr:fn.results=rs.toArray) (hv:∀ w,St S w0 w L→resAll P E w rs vs)
    (hvv:v=(if h:vs.length=1 then vs[0] else .tuple vs.toArray)) (L':List Ent) (hL:∀ w,St S w0 w L→St S w0 w L') (hB:∀ w L,St S w0 w L→St S1 w1 w L) (hφ:φ v L') (hd:n.ds=[]:=by rfl) :
    JX n S w0 (bodyPost P fn (Gives S1 w1 φ)) .ret E L:=JX_retsB (φ:=fun v L _=>φ v L) vs v hr hv hvv L' hL hB (fun _ _=>hφ) hd
def RoundB {X:Type} (n:Dim) (S:List Nat) (w0:World) (I:X→Prop) (W:X→World→Prop) (Ef:X→Env) (Lf:X→List Ent) (μ:X→Nat) (m:Nat) (Q:Post):Post:=
  Exit.then (fun a w=>∃ x,I x∧W x w∧μ x<m∧Rep n (Ef x) a∧St S w0 w (Lf x)) Q
theorem JX_roundA {X:Type} {S1:List Nat} {w1:World} {I:X→Prop} {Ef:X→Env} {Lf:X→List Ent} {μ:X→Nat} {m:Nat} (x:X) (hI:I x) (hm:μ x<m) (hE:SubE E (Ef x)) (hB:∀ w L,St S w0 w L→St S1 w1 w L) (hL:∀ w,St S w0 w L→St S w0 w (Lf x)) :
    JX n S w0 (Round n S1 w1 I Ef Lf μ m Q) .normal E L:=fun _ w hR hS=>⟨x,hI,hm,hR.sub hE,hB w _ (hL w hS)⟩
section
variable {ops:Array Oper} {o:Oper} {Lg Lu:List Ent} {us:List Nat} {fuel:Nat} {listed:Array Bool}
theorem JA_shunU (i:Nat) (hi:ops[i]? = some o) (hs:Region.noSelect ops=true) (hf:Region.free .any ops listed i=true) (hr:(Region.ready .any ops listed).contains i=true) (hu:us.contains i=false)
    (hQ:∀ c a w,Q (.panic c) (a.put o.dst undef) w→Q (.panic c) a w) (hd:dstOk n o.dst=true) (hw:gundef ops E o)
    (h:JA P n S w0 ops Q Lg us Lu fuel (listed.setIfInBounds i true) (put E o.dst undef) L):JA P n S w0 ops Q Lg us Lu (fuel+1) listed E L:=by
  intro a w hR hS hcl
  have hr':i∈Region.ready .any ops listed:=by simpa using hr
  refine wpAnyG_first (H:=fun _=>True) hi (Region.noSelect_spec hs) hQ (fun _ _ _ _ _=>trivial) (fun l w _ hl h=>⟨h.1,fun hh=>h.2 (by rw [all_unset hu];exact hh)⟩) fuel listed a w hcl (Region.free_spec hi hf) hr' (.inr ⟨gundef_wanted hR hw,rfl⟩) (h _ w (hR.put (fun d hd'=>?_) undef) hS (hcl.add hr'))
  rw [hd'] at hd
  simpa [dstOk,Nat.blt_eq] using hd
end
section
variable {ops:Array Oper} {o:Oper} {rest:List Oper}
theorem JO_callB (Sc:List Nat) (Lc Lr:List Ent) {f:FuncId} {args:Array Value} {φ:World→Value→List Ent→World→Prop} (hfit:fit n E o=true) (hw:wants ops E o)
    (hr:∀ w,(execOp (ev E) o).run P w = .ok (.enter f args) w) (hL:∀ w,St S w0 w L→St S w0 w (Lc++Lr)) (hS:∀ b∈Sc,∃ e∈Lc,e.own=some b)
    (hc:∀ w,St S w0 w (Lc++Lr)→Calls P f args w (GivesW Sc w (φ w))) (h:∀ w v L' w',φ w v L' w'→St S w0 w (Lc++Lr)→St S w0 w' (L'++Lr)→JO P n (Lown (L'++Lr)) w' ops rest Q (put E o.dst v) (L'++Lr)):JO P n S w0 ops (o::rest) Q E L:=by
  intro a w hR hSt
  unfold wpListIn
  rw [if_pos (wants_wanted hR hw)]
  refine ⟨fun _ _=>trivial,?_⟩
  rw [fit_sem hfit hR,hr w]
  refine ⟨fun h=>(by cases h),(callsIn_wd (m:=0-1)).2 ((hc w (hL w hSt)).mono ?_)⟩
  rintro e w' ⟨v,L',rfl,hφ,hS'⟩
  have hs:=(hL w hSt).after hS hS'
  exact h w v L' w' hφ (hL w hSt) hs _ _ (hR.put (fit_dst hfit) v) hs.base
end
end
end Go.GV
