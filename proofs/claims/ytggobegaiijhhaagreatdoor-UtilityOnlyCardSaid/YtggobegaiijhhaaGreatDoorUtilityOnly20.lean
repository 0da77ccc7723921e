/- Pl44d, Pl44e, Pl44f, Pl44g, Pl44h in one text. -/
import Derived.Test.YtggobegaiijhhaaGreatDoorUtilityOnly19
set_option linter.unusedVariables false
set_option linter.unusedSimpArgs false
namespace Go.Proofs.YtggobegaiijhhaaGreatDoor
open Go.GV
namespace R44
open Srt (Cmp El Sel)
open Hp (ec Heap Rok)
def el (e:El Bytes):element:=⟨(e.run:Int),(e.no:Int),e.x⟩
theorem cmpI_lt {x y:Int} : cmpI x y<0↔x<y:=by unfold cmpI;split <;> (try split) <;> omega
theorem cmpI_zero {x y:Int} : cmpI x y=0↔x=y:=by unfold cmpI;split <;> (try split) <;> omega
theorem ec_lt {l:List SortField} {p q:El Bytes} : ec l (el p) (el q)<0↔El.lt (cmpL l) p q:=by
  show Hp.orL [cmpI (p.run:Int) q.run,cmpL l p.x q.x,cmpI (p.no:Int) q.no]<0↔_
  have h1:=cmpI_lt (x:=(p.run:Int)) (y:=q.run)
  have h2:=cmpI_zero (x:=(p.run:Int)) (y:=q.run)
  have h3:=cmpI_lt (x:=(p.no:Int)) (y:=q.no)
  have h4:=cmpI_zero (x:=(p.no:Int)) (y:=q.no)
  unfold El.lt Srt.lt El.tag Hp.orL Hp.orL Hp.orL Hp.orL
  simp only
  split
  · omega
  · split
    · omega
    · split <;> omega
theorem sel_any {c:Bytes→Bytes→Int} : ∀ (m m':Nat) (mem:List (El Bytes)) (rest:List (Bytes × Nat)) (out:List (List (Bytes × Nat))),mem.length+rest.length≤m→mem.length+rest.length≤m'→Srt.sel c m mem rest out=Srt.sel c m' mem rest out
  | 0,0,_,_,_,_,_=>rfl
  | 0,m'+1,[],_,_,_,_=>rfl
  | m+1,0,[],_,_,_,_=>rfl
  | m+1,m'+1,[],_,_,_,_=>rfl
  | 0,_+1,_::_,_,_,h,_=>by simp at h
  | _+1,0,_::_,_,_,_,h=>by simp at h
  | m+1,m'+1,e::mem,[],out,h,h'=>by rw [Srt.sel,Srt.sel,sel_any m m' mem [] _ (by simp at h ⊢;omega) (by simp at h' ⊢;omega)]
  | m+1,m'+1,e::mem,y::rest,out,h,h'=>by
    rw [Srt.sel,Srt.sel,sel_any m m' _ rest _ (by rw [(Srt.insE_perm _ _).length_eq];simp at h ⊢;omega) (by rw [(Srt.insE_perm _ _).length_eq];simp at h' ⊢;omega)]
def selA (c:Bytes→Bytes→Int) (mem:List (El Bytes)) (rest:List (Bytes × Nat)) (out:List (List (Bytes × Nat))):List (List (Bytes × Nat)):=Srt.sel c (mem.length+rest.length) mem rest out
theorem selA_nil {c:Bytes→Bytes→Int} {rest:List (Bytes × Nat)} {out:List (List (Bytes × Nat))} : selA c [] rest out=out:=by
  unfold selA;cases hn:([]:List (El Bytes)).length+rest.length <;> rfl
theorem selA_dry {c:Bytes→Bytes→Int} {e:El Bytes} {mem:List (El Bytes)} {out:List (List (Bytes × Nat))} : selA c (e::mem) [] out=selA c mem [] (Srt.putR out e.run e.tag):=by
  unfold selA;rw [show (e::mem).length+([]:List (Bytes × Nat)).length=(mem.length+0)+1 by simp,Srt.sel];rfl
theorem selA_go {c:Bytes→Bytes→Int} {e:El Bytes} {y:Bytes × Nat} {mem:List (El Bytes)} {rest:List (Bytes × Nat)} {out:List (List (Bytes × Nat))} : selA c (e::mem) (y::rest) out=selA c (Srt.insE c mem ⟨if c y.1 e.x<0 then e.run+1 else e.run,y.2,y.1⟩) rest (Srt.putR out e.run e.tag):=by
  unfold selA
  rw [show (e::mem).length+(y::rest).length=(mem.length+rest.length+1)+1 by simp;omega,Srt.sel]
  exact sel_any _ _ _ _ _ (by rw [(Srt.insE_perm _ _).length_eq,List.length_cons];omega) (by rw [(Srt.insE_perm _ _).length_eq,List.length_cons];omega)
structure RunI (l:List SortField) (M:Nat) (rs:List Bytes) (next:Nat) (ys:List element) (rws:List (List Bytes)) (mem:List (El Bytes)) (out:List (List (Bytes × Nat))):Prop where
  sel:Sel (cmpL l) M rs.zipIdx mem (rs.zipIdx.drop next) out 0
  dry:mem=[]→rs.zipIdx.drop next=[]
  eq:selA (cmpL l) mem (rs.zipIdx.drop next) out=Srt.runsT (cmpL l) M rs
  perm:ys.Perm (mem.map el)
  heap:Heap (ec l) default ys
  rows:rws=out.map (List.map Prod.fst)
  nx:next≤rs.length
def RunJ (l:List SortField) (M:Nat) (rs:List Bytes) (next:Nat) (ys:List element) (rws:List (List Bytes)):Prop:=∃ mem out,RunI l M rs next ys rws mem out
theorem heap_head {l:List SortField} {ys:List element} {e:El Bytes} {r:List (El Bytes)} (hh:Heap (ec l) default ys) (hp:ys.Perm ((e::r).map el)) (ho:(e::r).Pairwise (El.lt (cmpL l))):ys.getD 0 default=el e:=by
  have hc:=Hp.ec_ok l
  have hl:0<ys.length:=by rw [hp.length_eq];simp
  have h0:ys.getD 0 default∈(e::r).map el:=hp.mem_iff.1 (getD_mem hl)
  rw [List.map_cons] at h0
  rcases List.mem_cons.1 h0 with h | h
  · exact h
  · obtain ⟨f,hf,hfe⟩:=List.mem_map.1 h
    have hlt:=ec_lt.2 ((List.pairwise_cons.1 ho).1 f hf)
    have hmem:el e∈ys:=hp.mem_iff.2 (by rw [List.map_cons];exact List.mem_cons_self)
    obtain ⟨j,hj,hje⟩:=List.mem_iff_getElem.1 hmem
    have hm:=Hp.heap_min hc hh j hj
    rw [Hp.getD_lt hj,hje,← hfe] at hm
    have:=hc.anti (el e) (el f)
    omega
theorem pop_rest {ys ys':List element} {e:El Bytes} {r:List (El Bytes)} (hp:ys.Perm ((e::r).map el)) (h0:ys.getD 0 default=el e) (hq:(ys.getD 0 default::ys').Perm ys):ys'.Perm (r.map el):=by
  have h:=hq.trans hp
  rw [h0,List.map_cons] at h
  exact (List.perm_cons (el e)).1 h
theorem zip_drop {rs:List Bytes} {k:Nat} (hk:k<rs.length):rs.zipIdx.drop k=(rs.getD k [],k)::rs.zipIdx.drop (k+1):=by
  rw [List.drop_eq_getElem_cons (by simpa using hk)]
  congr 1
  rw [List.getElem_zipIdx,List.getD_eq_getElem?_getD,List.getElem?_eq_getElem hk]
  simp
theorem zip_done {rs:List Bytes} {k:Nat} (hk:rs.length≤k):rs.zipIdx.drop k=[]:=List.drop_of_length_le (by simpa using hk)
theorem RunJ.head {l:List SortField} {M next:Nat} {rs:List Bytes} {ys:List element} {rws:List (List Bytes)} (h:RunJ l M rs next ys rws) (h0:0<ys.length) :
    0≤(ys.getD 0 default).run∧(ys.getD 0 default).run≤(rws.length:Int)∧(rws.length:Int)≤(ys.getD 0 default).run+1:=by
  obtain ⟨mem,out,h⟩:=h
  have hl:rws.length=out.length:=by rw [h.rows,List.length_map]
  cases hm:mem with
  | nil=>rw [hm] at h;have:=h.perm.length_eq;simp at this;simp [this] at h0
  | cons e r =>
    subst hm
    rw [heap_head h.heap h.perm h.sel.ord]
    have:=h.sel.runsE e List.mem_cons_self
    show (0:Int)≤(e.run:Int)∧(e.run:Int)≤_∧_≤(e.run:Int)+1
    rw [hl];omega
def putS (out:List (List Bytes)) (r:Nat) (s:Bytes):List (List Bytes):=if r=out.length then out++[[s]] else out.set r (out.getD r []++[s])
theorem putS_map {out:List (List (Bytes × Nat))} {r:Nat} {p:Bytes × Nat} : putS (out.map (List.map Prod.fst)) r p.1=(Srt.putR out r p).map (List.map Prod.fst):=by
  unfold putS Srt.putR
  rw [List.length_map]
  split
  · rw [List.map_append];rfl
  · rw [List.map_set,List.map_append,Srt.getD_map];rfl
theorem RunJ.dry {l:List SortField} {M next:Nat} {rs:List Bytes} {ys ys':List element} {rws:List (List Bytes)} (h:RunJ l M rs next ys rws) (h0:0<ys.length) (hn:¬ next<rs.length) (hp:(ys.getD 0 default::ys').Perm ys) (hh:Heap (ec l) default ys') :
    RunJ l M rs next ys' (putS rws (ys.getD 0 default).run.toNat (ys.getD 0 default).record):=by
  obtain ⟨mem,out,h⟩:=h
  cases hm:mem with
  | nil=>rw [hm] at h;have:=h.perm.length_eq;simp at this;simp [this] at h0
  | cons e r =>
    subst hm
    have he:=heap_head h.heap h.perm h.sel.ord
    have hd:=zip_done (rs:=rs) (k:=next) (by omega)
    have hs:=h.sel
    have heq:=h.eq
    rw [hd] at hs heq
    refine ⟨r,Srt.putR out e.run e.tag,?_,fun _=>hd,?_,pop_rest h.perm he hp,hh,?_,h.nx⟩
    · rw [hd];exact hs.pop.1.dry
    · rw [hd,← heq,selA_dry]
    · rw [h.rows,he];exact putS_map (p:=e.tag)
theorem RunJ.go {l:List SortField} {M next:Nat} {rs:List Bytes} {ys ys' ys2:List element} {rws:List (List Bytes)} {run:Int} (h:RunJ l M rs next ys rws) (h0:0<ys.length) (hn:next<rs.length) (hp:(ys.getD 0 default::ys').Perm ys)
    (hrun:run=if cmpL l (rs.getD next []) (ys.getD 0 default).record<0 then (ys.getD 0 default).run+1 else (ys.getD 0 default).run) (hp2:ys2.Perm (ys'++[element.mk run (next:Int) (rs.getD next [])])) (hh:Heap (ec l) default ys2) :
    RunJ l M rs (next+1) ys2 (putS rws (ys.getD 0 default).run.toNat (ys.getD 0 default).record):=by
  obtain ⟨mem,out,h⟩:=h
  cases hm:mem with
  | nil=>rw [hm] at h;have:=h.perm.length_eq;simp at this;simp [this] at h0
  | cons e r =>
    subst hm
    have he:=heap_head h.heap h.perm h.sel.ord
    have hd:=zip_drop hn
    have hs:=h.sel
    have heq:=h.eq
    rw [hd] at hs heq
    obtain ⟨p1,p2,p3,p4⟩:=hs.pop
    have hpush:=p1.push (cmpL_ok l) p2 p3 p4
    rw [he] at hrun
    have hr2:run=((if cmpL l (rs.getD next []) e.x<0 then e.run+1 else e.run:Nat):Int):=by
      rw [hrun]
      show (if cmpL l (rs.getD next []) e.x<0 then (e.run:Int)+1 else (e.run:Int))=_
      split <;> rfl
    refine ⟨_,_,hpush,fun hnil=>?_,?_,?_,hh,?_,by omega⟩
    · have:=congrArg List.length hnil
      rw [(Srt.insE_perm _ _).length_eq] at this;simp at this
    · rw [← heq,selA_go]
    · have hq:=pop_rest h.perm he hp
      refine hp2.trans ?_
      have h3:=(Srt.insE_perm (c:=cmpL l) r ⟨if cmpL l (rs.getD next [],next).1 e.x<0 then e.run+1 else e.run,(rs.getD next [],next).2,(rs.getD next [],next).1⟩).map el
      refine List.Perm.trans ?_ h3.symm
      rw [List.map_cons]
      refine (List.perm_append_singleton _ _).trans ?_
      have:element.mk run (next:Int) (rs.getD next [])=el ⟨if cmpL l (rs.getD next [],next).1 e.x<0 then e.run+1 else e.run,(rs.getD next [],next).2,(rs.getD next [],next).1⟩:=by rw [hr2];rfl
      rw [this]
      exact hq.cons _
    · rw [h.rows,he];exact putS_map (p:=e.tag)
def FillJ (l:List SortField) (rs:List Bytes) (k:Nat) (ys:List element):Prop:=ys.Perm ((Srt.fillE (cmpL l) (rs.zipIdx.take k)).map el)∧Heap (ec l) default ys
theorem FillJ.start (l:List SortField) (rs:List Bytes):FillJ l rs 0 []:=⟨.nil,fun j _ hj=>by simp at hj⟩
theorem FillJ.step {l:List SortField} {rs:List Bytes} {k:Nat} {ys ys2:List element} (h:FillJ l rs k ys) (hk:k<rs.length) (hp:ys2.Perm (ys++[element.mk 0 (k:Int) (rs.getD k [])])) (hh:Heap (ec l) default ys2):FillJ l rs (k+1) ys2:=by
  refine ⟨?_,hh⟩
  have e:rs.zipIdx.take (k+1)=rs.zipIdx.take k++[(rs.getD k [],k)]:=by
    rw [List.take_succ_eq_append_getElem (by simpa using hk)]
    congr 2
    rw [List.getElem_zipIdx,List.getD_eq_getElem?_getD,List.getElem?_eq_getElem hk];simp
  rw [e]
  unfold Srt.fillE
  rw [List.foldl_append]
  show ys2.Perm ((Srt.insE (cmpL l) (Srt.fillE (cmpL l) (rs.zipIdx.take k)) ⟨0,k,rs.getD k []⟩).map el)
  refine hp.trans (List.Perm.trans ?_ ((Srt.insE_perm _ _).map el).symm)
  rw [List.map_cons]
  exact (List.perm_append_singleton _ _).trans (h.1.cons _)
theorem FillJ.run {l:List SortField} {rs:List Bytes} {M:Nat} {ys:List element} (hM:0<M) (h:FillJ l rs (min M rs.length) ys):RunJ l M rs (min M rs.length) ys []:=by
  have hs:=Srt.start_spec (cmpL_ok l) M rs
  have hd:rs.zipIdx.drop (min M rs.length)=rs.zipIdx.drop M:=by
    by_cases hM:M≤rs.length
    · rw [Nat.min_eq_left hM]
    · rw [Nat.min_eq_right (by omega),zip_done (Nat.le_refl _),zip_done (by omega)]
  have ht:rs.zipIdx.take (min M rs.length)=rs.zipIdx.take M:=by
    by_cases hM:M≤rs.length
    · rw [Nat.min_eq_left hM]
    · rw [Nat.min_eq_right (by omega),List.take_of_length_le (by simp),List.take_of_length_le (by simp;omega)]
  have h1:=h.1
  rw [ht] at h1
  refine ⟨_,[],by rw [hd];exact hs.1,fun hn=>?_,?_,h1,h.2,rfl,Nat.min_le_right _ _⟩
  · have:=hs.2
    rw [hn] at this
    have h0:min M rs.length=0:=this.symm
    exact zip_done (by omega)
  · rw [hd]
    unfold selA Srt.runsT
    rw [hs.2]
    exact sel_any _ _ _ _ _ (by rw [hs.2];exact Nat.le_refl _) (by rw [hs.2];simp;omega)
theorem RunJ.done {l:List SortField} {M next:Nat} {rs:List Bytes} {ys:List element} {rws:List (List Bytes)} (h:RunJ l M rs next ys rws) (h0:¬ 0<ys.length):rws=Srt.runs (cmpL l) M rs:=by
  obtain ⟨mem,out,h⟩:=h
  have hm:mem=[]:=by
    have:=h.perm.length_eq
    simp at this
    exact List.length_eq_zero_iff.1 (by omega)
  subst hm
  have he:=h.eq
  rw [selA_nil] at he
  rw [h.rows,he];rfl
def runsV (l:List SortField) (m:Int) (rs:List Bytes):List (List Bytes):=if 1≤m∧valid l=true then Srt.runs (cmpL l) m.toNat rs else []
theorem rw_new {rws:List Rw} {r:Int} {s:Bytes} {A:Option Addr} {c:Nat} {z:Rw} (hz:z.s=[]) (h:r=((rws.length:Nat):Int)):((rws++[z]).set r.toNat (Rw.mk (((rws++[z]).getD r.toNat default).s++[s]) A c)).map Rw.s=putS (rws.map Rw.s) r.toNat s:=by
  have hr:r.toNat=rws.length:=by omega
  rw [hr]
  unfold putS
  rw [List.length_map,if_pos rfl,List.getD_eq_getElem?_getD,List.getElem?_append_right (Nat.le_refl _),Nat.sub_self]
  rw [List.set_append_right _ _ (Nat.le_refl _),Nat.sub_self]
  simp [hz]
theorem rw_old {rws:List Rw} {r:Int} {s:Bytes} {A:Option Addr} {c:Nat} (h0:0≤r) (h:¬ r=((rws.length:Nat):Int)):(rws.set r.toNat (Rw.mk ((rws.getD r.toNat default).s++[s]) A c)).map Rw.s=putS (rws.map Rw.s) r.toNat s:=by
  unfold putS
  rw [List.length_map,if_neg (by omega),List.map_set]
  congr 2
  rw [List.getD_eq_getElem?_getD,List.getD_eq_getElem?_getD,List.getElem?_map]
  cases rws[r.toNat]? <;> rfl
theorem runs_small {c:Bytes→Bytes→Int} (h:Cmp c) {M:Nat} (hM:0<M) (rs:List Bytes):(Srt.runs c M rs).length≤rs.length ∧ ∀ x∈Srt.runs c M rs,x.length≤rs.length:=by
  have hp:=(Srt.runs_perm h hM rs).length_eq
  have key:∀ (ls:List (List Bytes)),(∀ x∈ls,x≠[])→ls.length≤ls.flatten.length:=by
    intro ls
    induction ls with
    | nil=>intro _;exact Nat.le_refl _
    | cons x r ih =>
      intro hx
      rw [List.flatten_cons,List.length_append,List.length_cons]
      have h1:=List.length_pos_iff.2 (hx x List.mem_cons_self)
      have h2:=ih fun y hy=>hx y (List.mem_cons_of_mem _ hy)
      omega
  refine ⟨hp ▸ key _ (Srt.runs_ne h hM rs),fun x hx=>?_⟩
  rw [← hp]
  exact (List.sublist_flatten_of_mem hx).length_le
theorem RunJ.small {l:List SortField} {M next:Nat} {rs:List Bytes} {ys:List element} {rws:List Rw} (h:RunJ l M rs next ys (rws.map Rw.s)):rws.length≤rs.length∧ys.length≤rs.length∧(∀ i,(rws.getD i default).s.length≤rs.length) ∧ ∀ i,((rws++[Rw.mk [] none 0]).getD i default).s.length≤rs.length:=by
  obtain ⟨mem,out,h⟩:=h
  have hp:=h.sel.perm.length_eq
  simp only [List.length_append,List.length_map,List.length_zipIdx] at hp
  have hy:=h.perm.length_eq
  rw [List.length_map] at hy
  have key:∀ (ls:List (List (Bytes × Nat))),(∀ x∈ls,x≠[])→ls.length≤ls.flatten.length:=by
    intro ls
    induction ls with
    | nil=>intro _;exact Nat.le_refl _
    | cons x r ih =>
      intro hx
      rw [List.flatten_cons,List.length_append,List.length_cons]
      have h1:=List.length_pos_iff.2 (hx x List.mem_cons_self)
      have h2:=ih fun y hy=>hx y (List.mem_cons_of_mem _ hy)
      omega
  have hk:=key out h.sel.ne
  have hl:rws.length=out.length:=by
    have:=congrArg List.length h.rows
    rwa [List.length_map,List.length_map] at this
  have hs:∀ i,(rws.getD i default).s.length≤rs.length:=fun i=>by
    by_cases hi:i<rws.length
    · have e:(rws.getD i default).s=(out.getD i []).map Prod.fst:=by
        have h2:=congrArg (fun x:List (List Bytes)=>x.getD i []) h.rows
        replace h2:(rws.map Rw.s).getD i []=(out.map (List.map Prod.fst)).getD i []:=h2
        rw [Srt.getD_map,List.getD_eq_getElem?_getD,List.getElem?_map,List.getElem?_eq_getElem hi] at h2
        rw [List.getD_eq_getElem?_getD,List.getElem?_eq_getElem hi]
        exact h2
      rw [e,List.length_map]
      have hm:out.getD i []∈out:=by
        rw [List.getD_eq_getElem?_getD,List.getElem?_eq_getElem (by omega)];exact List.getElem_mem _
      have:=(List.sublist_flatten_of_mem hm).length_le
      omega
    · rw [getD_out (by omega)];exact Nat.zero_le _
  refine ⟨by omega,by omega,hs,fun i=>?_⟩
  by_cases hi:i<rws.length
  · rw [List.getD_eq_getElem?_getD,List.getElem?_append_left hi,← List.getD_eq_getElem?_getD];exact hs i
  · rw [List.getD_eq_getElem?_getD,List.getElem?_append_right (by omega)]
    cases hj:i-rws.length with
    | zero=>exact Nat.zero_le _
    | succ k=>exact Nat.zero_le _
theorem RunJ.headR {l:List SortField} {M next:Nat} {rs:List Bytes} {ys:List element} {rws:List Rw} (h:RunJ l M rs next ys (rws.map Rw.s)) (h0:0<ys.length) :
    0≤(ys.getD 0 default).run∧(ys.getD 0 default).run≤(rws.length:Int)∧(rws.length:Int)≤(ys.getD 0 default).run+1:=by
  have:=h.head h0
  rwa [List.length_map] at this
theorem RunJ.hp {l:List SortField} {M next:Nat} {rs:List Bytes} {ys:List element} {rws:List (List Bytes)} (h:RunJ l M rs next ys rws):Heap (ec l) default ys:=by
  obtain ⟨mem,out,h⟩:=h;exact h.heap
theorem runsV_or {l:List SortField} {m:Int} {rs:List Bytes} (h:m<1∨valid l=false):[]=runsV l m rs:=by
  unfold runsV;rw [if_neg];rintro ⟨h1,h2⟩;rcases h with h | h
  · omega
  · rw [h] at h2;cases h2
theorem RunJ.fin {l:List SortField} {next:Nat} {m:Int} {rs:List Bytes} {ys:List element} {rws:List (List Bytes)} (h:RunJ l m.toNat rs next ys rws) (h0:¬ 0<ys.length) (hm:1≤m) (hv:valid l=true):rws=runsV l m rs:=by
  unfold runsV;rw [if_pos ⟨hm,hv⟩];exact h.done h0
end R44
namespace R44
open Srt (Cmp El Sel)
theorem cmpV_eq {l:List SortField} (h:valid l=true):cmpV l=cmpL l:=by funext a b;unfold cmpV;rw [if_pos h]
def ile (c:Bytes→Bytes→Int) (a b:item):Prop:=c a.s b.s<0∨(c a.s b.s=0∧a.no≤b.no)
structure Best (c:Bytes→Bytes→Int) (ms:List item) (run:Int) (k:Nat) (r:Int):Prop where
  bd : -1≤r∧r<(k:Int)
  non:r<0 → ∀ i,i<k→(ms.getD i default).run≠run
  som:0≤r→(ms.getD r.toNat default).run=run ∧ ∀ i,i<k→(ms.getD i default).run=run→ile c (ms.getD r.toNat default) (ms.getD i default)
section
variable {c:Bytes→Bytes→Int} {ms:List item} {run r:Int} {k:Nat}
theorem Best.skip (h:Best c ms run k r) (hr:(ms.getD k default).run≠run):Best c ms run (k+1) r:=by
  have hb:=h.bd
  refine ⟨by omega,fun h0 i hi=>?_,fun h0=>⟨(h.som h0).1,fun i hi he=>?_⟩⟩
  · by_cases e:i=k
    · subst e;exact hr
    · exact h.non h0 i (by omega)
  · by_cases e:i=k
    · subst e;exact absurd he hr
    · exact (h.som h0).2 i (by omega) he
theorem Best.first (hc:Cmp c) (h:Best c ms run k r) (h0:r<0) (hr:¬ (ms.getD k default).run≠run):Best c ms run (k+1) (k:Int):=by
  refine ⟨by omega,fun h1=>by omega,fun _=>⟨?_,fun i hi he=>?_⟩⟩
  · rw [Int.toNat_natCast];exact Decidable.not_not.1 hr
  · rw [Int.toNat_natCast]
    by_cases e:i=k
    · subst e;exact .inr ⟨hc.self _,Int.le_refl _⟩
    · exact absurd he (h.non h0 i (by omega))
theorem Best.keep (hc:Cmp c) (h:Best c ms run k r) (h0:0≤r) (hk:0<c (ms.getD k default).s (ms.getD r.toNat default).s∨(c (ms.getD k default).s (ms.getD r.toNat default).s=0∧(ms.getD r.toNat default).no<(ms.getD k default).no)):Best c ms run (k+1) r:=by
  have hb:=h.bd
  refine ⟨by omega,fun h1=>by omega,fun _=>⟨(h.som h0).1,fun i hi he=>?_⟩⟩
  by_cases e:i=k
  · subst e
    have:=hc.anti (ms.getD r.toNat default).s (ms.getD i default).s
    unfold ile;omega
  · exact (h.som h0).2 i (by omega) he
theorem Best.swap (hc:Cmp c) (h:Best c ms run k r) (h0:0≤r) (hr:¬ (ms.getD k default).run≠run) (hk:¬ (0<c (ms.getD k default).s (ms.getD r.toNat default).s∨(c (ms.getD k default).s (ms.getD r.toNat default).s=0∧(ms.getD r.toNat default).no<(ms.getD k default).no))):Best c ms run (k+1) (k:Int):=by
  refine ⟨by omega,fun h1=>by omega,fun _=>⟨?_,fun i hi he=>?_⟩⟩
  · rw [Int.toNat_natCast];exact Decidable.not_not.1 hr
  · rw [Int.toNat_natCast]
    by_cases e:i=k
    · subst e;exact .inr ⟨hc.self _,Int.le_refl _⟩
    · have h1:=(h.som h0).2 i (by omega) he
      unfold ile at *
      have t1:=hc.trans (ms.getD k default).s (ms.getD r.toNat default).s (ms.getD i default).s
      have t2:=hc.trans (ms.getD i default).s (ms.getD k default).s (ms.getD r.toNat default).s
      have a1:=hc.anti (ms.getD k default).s (ms.getD i default).s
      have a2:=hc.anti (ms.getD r.toNat default).s (ms.getD i default).s
      have a3:=hc.anti (ms.getD k default).s (ms.getD r.toNat default).s
      have t3:=hc.trans (ms.getD r.toNat default).s (ms.getD i default).s (ms.getD k default).s
      omega
theorem best_lt (h:Best c ms run ms.length (k:Int)):k<ms.length:=by have:=h.bd;omega
end
def itm (e:El Bytes):item:=⟨e.x,(e.run:Int)+1,(e.no:Int)⟩
structure RefI (l:List SortField) (M:Nat) (rs:List Bytes) (next:Nat) (ms:List item) (X:List (List Bytes)) (mem:List (El Bytes)) (out:List (List (Bytes × Nat))):Prop where
  sel:Sel (cmpL l) M rs.zipIdx mem (rs.zipIdx.drop next) out 0
  dry:mem=[]→rs.zipIdx.drop next=[]
  eq:selA (cmpL l) mem (rs.zipIdx.drop next) out=Srt.runsT (cmpL l) M rs
  perm:ms.Perm (mem.map itm)
  rows:(X=out.map (List.map Prod.fst)∧out≠[])∨(X=out.map (List.map Prod.fst)++[[]]∧mem≠[] ∧ ∀ e∈mem,e.run=out.length)
  nx:next≤rs.length
  val:valid l=true
def RefJ (l:List SortField) (M:Nat) (rs:List Bytes) (next:Nat) (ms:List item) (X:List (List Bytes)):Prop:=∃ mem out,RefI l M rs next ms X mem out
section
variable {l:List SortField} {M next:Nat} {rs:List Bytes} {ms ms':List item} {X:List (List Bytes)} {mem:List (El Bytes)} {out:List (List (Bytes × Nat))} {k:Nat}
theorem getD_ex {α:Type} {l:List α} {x d:α} (h:x∈l):∃ i,i<l.length∧l.getD i d=x:=by
  obtain ⟨i,hi,e⟩:=List.mem_iff_getElem.1 h
  exact ⟨i,hi,by rw [List.getD_eq_getElem?_getD,List.getElem?_eq_getElem hi];exact e⟩
theorem RefI.xl (h:RefI l M rs next ms X mem out):(X.length=out.length∧X=out.map (List.map Prod.fst)∧out≠[])∨(X.length=out.length+1∧X=out.map (List.map Prod.fst)++[[]]∧mem≠[] ∧ ∀ e∈mem,e.run=out.length):=by
  rcases h.rows with ⟨h1,h2⟩ | ⟨h1,h2,h3⟩
  · exact .inl ⟨by rw [h1,List.length_map],h1,h2⟩
  · exact .inr ⟨by rw [h1];simp,h1,h2,h3⟩
theorem RefI.pick (h:RefI l M rs next ms X mem out) (hb:Best (cmpV l) ms (X.length:Int) ms.length (k:Int)):∃ e r,mem=e::r∧ms.getD k default=itm e∧e.run+1=X.length:=by
  have hk:=best_lt hb
  obtain ⟨b1,b2⟩:=hb.som (by omega)
  rw [Int.toNat_natCast] at b1 b2
  obtain ⟨f,hf,hfe⟩:=List.mem_map.1 (h.perm.mem_iff.1 (getD_mem (d:=default) hk))
  have hrun:f.run+1=X.length:=by
    rw [← hfe] at b1
    have:((f.run:Int)+1)=(X.length:Int):=b1
    omega
  cases hm:mem with
  | nil=>rw [hm] at hf;cases hf
  | cons e r =>
    refine ⟨e,r,rfl,?_⟩
    rw [hm] at hf
    rcases List.mem_cons.1 hf with rfl | hf
    · exact ⟨hfe.symm,hrun⟩
    exfalso
    have hsel:=h.sel
    rw [hm] at hsel
    have hlt:=(List.pairwise_cons.1 hsel.ord).1 f hf
    have he:e.run=f.run:=by
      have h1:=hsel.runsE e List.mem_cons_self
      have h2:e.run≤f.run:=by rcases hlt with hlt | ⟨hlt,_⟩ <;> omega
      rcases h.xl with ⟨hx,_⟩ | ⟨hx,_,_,hall⟩
      · omega
      · have:=hall e (by rw [hm];exact List.mem_cons_self);omega
    obtain ⟨i,hi,hie⟩:=getD_ex (d:=default) (h.perm.mem_iff.2 (List.mem_map_of_mem (f:=itm) (show e∈mem by rw [hm];exact List.mem_cons_self)))
    have h3:=b2 i hi (by rw [hie];show (e.run:Int)+1=_;omega)
    rw [hie,← hfe,cmpV_eq h.val] at h3
    have hc:=cmpL_ok l
    have h4:=hc.anti f.x e.x
    rcases hlt with hlt | ⟨_,hlt⟩
    · omega
    · have h5:cmpL l f.x e.x<0∨(cmpL l f.x e.x=0∧(f.no:Int)≤(e.no:Int)):=h3
      have h6:cmpL l e.x f.x<0∨(cmpL l e.x f.x=0∧e.no<f.no):=hlt
      omega
theorem set_map {out:List (List (Bytes × Nat))} {p:Bytes × Nat} {n:Nat} : (out.set n (out.getD n []++[p])).map (List.map Prod.fst)=(out.map (List.map Prod.fst)).set n ((out.map (List.map Prod.fst)).getD n []++[p.1]):=by
  rw [List.map_set,List.map_append,Srt.getD_map];rfl
theorem RefI.put (h:RefI l M rs next ms X mem out) {e:El Bytes} {r:List (El Bytes)} (_hm:mem=e::r) (he:e.run+1=X.length) :
    X.set (X.length-1) (X.getD (X.length-1) []++[e.x])=(Srt.putR out e.run e.tag).map (List.map Prod.fst)∧Srt.putR out e.run e.tag≠[]:=by
  unfold Srt.putR
  rcases h.xl with ⟨hx,h1,h2⟩ | ⟨hx,h1,h2,h3⟩
  · rw [if_neg (by omega)]
    refine ⟨?_,fun e=>h2 ?_⟩
    · rw [set_map,← h1,show X.length-1=e.run by omega];rfl
    · have:=congrArg List.length e;rw [List.length_set] at this;exact List.length_eq_zero_iff.1 this
  · rw [if_pos (by omega)]
    refine ⟨?_,by simp⟩
    rw [h1,List.length_append,List.length_map,List.length_singleton,Nat.add_sub_cancel]
    have hl:(out.map (List.map Prod.fst)).length=out.length:=List.length_map _
    rw [List.set_append_right _ _ (by omega),hl,Nat.sub_self,List.getD_eq_getElem?_getD,List.getElem?_append_right (by omega),hl,Nat.sub_self,List.map_append]
    rfl
theorem pop_mem {e:El Bytes} {r:List (El Bytes)} (hp:ms.Perm ((e::r).map itm)) (he:ms.getD k default=itm e) (hq:ms.Perm (ms.getD k default::ms')):ms'.Perm (r.map itm):=by
  rw [he] at hq
  have h:=hq.symm.trans hp
  rw [List.map_cons] at h
  exact (List.perm_cons (itm e)).1 h
theorem RefJ.dry (h:RefJ l M rs next ms X) (hb:Best (cmpV l) ms (X.length:Int) ms.length (k:Int)) (hn:¬ next<rs.length) (hp:ms.Perm (ms.getD k default::ms')) :
    RefJ l M rs next ms' (X.set (X.length-1) (X.getD (X.length-1) []++[(ms.getD k default).s])):=by
  obtain ⟨mem,out,h⟩:=h
  obtain ⟨e,r,hm,he,hr⟩:=h.pick hb
  have hput:=h.put hm hr
  subst hm
  have hd:=zip_done (rs:=rs) (k:=next) (by omega)
  have hs:=h.sel
  have heq:=h.eq
  rw [hd] at hs heq
  refine ⟨r,Srt.putR out e.run e.tag,?_,fun _=>hd,?_,pop_mem h.perm he hp,.inl ⟨?_,hput.2⟩,h.nx,h.val⟩
  · rw [hd];exact hs.pop.1.dry
  · rw [hd,← heq,selA_dry]
  · rw [he];exact hput.1
theorem RefJ.go (h:RefJ l M rs next ms X) (hb:Best (cmpV l) ms (X.length:Int) ms.length (k:Int)) (hn:next<rs.length) (hp:ms.Perm (ms.getD k default::ms')) {run:Int}
    (hrun:run=if cmpV l (rs.getD next []) (ms.getD k default).s<0 then (X.length:Int)+1 else (X.length:Int)) :
    RefJ l M rs (next+1) (ms'++[item.mk (rs.getD next []) run (next:Int)]) (X.set (X.length-1) (X.getD (X.length-1) []++[(ms.getD k default).s])):=by
  obtain ⟨mem,out,h⟩:=h
  obtain ⟨e,r,hm,he,hr⟩:=h.pick hb
  have hput:=h.put hm hr
  subst hm
  have hd:=zip_drop hn
  have hs:=h.sel
  have heq:=h.eq
  rw [hd] at hs heq
  obtain ⟨p1,p2,p3,p4⟩:=hs.pop
  have hpush:=p1.push (cmpL_ok l) p2 p3 p4
  rw [he,cmpV_eq h.val] at hrun
  have hr2:run=((if cmpL l (rs.getD next []) e.x<0 then e.run+1 else e.run:Nat):Int)+1:=by
    rw [hrun]
    show (if cmpL l (rs.getD next []) e.x<0 then (X.length:Int)+1 else (X.length:Int))=_
    split <;> omega
  refine ⟨_,_,hpush,fun hnil=>?_,?_,?_,.inl ⟨?_,hput.2⟩,by omega,h.val⟩
  · have:=congrArg List.length hnil
    rw [(Srt.insE_perm _ _).length_eq] at this;simp at this
  · rw [← heq,selA_go]
  · have hq:=pop_mem h.perm he hp
    have h3:=(Srt.insE_perm (c:=cmpL l) r ⟨if cmpL l (rs.getD next [],next).1 e.x<0 then e.run+1 else e.run,(rs.getD next [],next).2,(rs.getD next [],next).1⟩).map itm
    refine List.Perm.trans ?_ h3.symm
    rw [List.map_cons]
    refine (List.perm_append_singleton _ _).trans ?_
    have:item.mk (rs.getD next []) run (next:Int)=itm ⟨if cmpL l (rs.getD next [],next).1 e.x<0 then e.run+1 else e.run,(rs.getD next [],next).2,(rs.getD next [],next).1⟩:=by rw [hr2];rfl
    rw [this]
    exact hq.cons _
  · rw [he];exact hput.1
theorem RefJ.fresh {r:Int} (h:RefJ l M rs next ms X) (hb:Best (cmpV l) ms (X.length:Int) ms.length r) (h0:r<0) (hl:0<ms.length):RefJ l M rs next ms (X++[[]])∧X.getD (X.length-1) []≠[]:=by
  obtain ⟨mem,out,h⟩:=h
  have hno:∀ e∈mem,(e.run:Int)+1≠(X.length:Int):=fun e he=>by
    obtain ⟨i,hi,hie⟩:=getD_ex (d:=default) (h.perm.mem_iff.2 (List.mem_map_of_mem (f:=itm) he))
    have:=hb.non h0 i hi
    rw [hie] at this;exact this
  have hne:mem≠[]:=fun e=>by have:=h.perm.length_eq;rw [e] at this;simp at this;rw [this] at hl;exact absurd hl (by simp)
  rcases h.xl with ⟨hx,h1,h2⟩ | ⟨hx,h1,h2,h3⟩
  · refine ⟨⟨mem,out,h.sel,h.dry,h.eq,h.perm,.inr ⟨by rw [h1],hne,fun e he=>?_⟩,h.nx,h.val⟩,?_⟩
    · have:=h.sel.runsE e he;have:=hno e he;omega
    · rw [h1,Srt.getD_map,List.length_map]
      have hol:0<out.length:=List.length_pos_iff.2 h2
      have:=h.sel.ne (out.getD (out.length-1) []) (getD_mem (by omega))
      intro hc;exact this (List.map_eq_nil_iff.1 hc)
  · exfalso
    cases hm:mem with
    | nil=>exact hne hm
    | cons e r =>
      have he:e∈mem:=by rw [hm];exact List.mem_cons_self
      have:=h3 e he;have:=hno e he;omega
theorem RefJ.fin {m:Int} (h:RefJ l m.toNat rs next ms X) (h0:¬ 0<ms.length) (hm:1≤m):X=runsV l m rs:=by
  obtain ⟨mem,out,h⟩:=h
  have hmem:mem=[]:=by
    have:=h.perm.length_eq
    simp at this
    exact List.length_eq_zero_iff.1 (by omega)
  subst hmem
  have he:=h.eq
  rw [selA_nil] at he
  unfold runsV
  rw [if_pos ⟨hm,h.val⟩]
  rcases h.rows with ⟨h1,_⟩ | ⟨_,h2,_⟩
  · rw [h1,he];rfl
  · exact absurd rfl h2
def fills (rs:List Bytes) (k:Nat):List item:=(List.range k).map fun i=>⟨rs.getD i [],1,(i:Int)⟩
theorem fillE_perm {c:Bytes→Bytes→Int} : ∀ (l:List (Bytes × Nat)) (m:List (El Bytes)),(l.foldl (fun m y=>Srt.insE c m ⟨0,y.2,y.1⟩) m).Perm (m++l.map fun y=>⟨0,y.2,y.1⟩)
  | [],m=>by simp
  | y::l,m=>by
    rw [List.foldl_cons,List.map_cons]
    refine (fillE_perm l _).trans ?_
    refine ((Srt.insE_perm (c:=c) m ⟨0,y.2,y.1⟩).append_right _).trans ?_
    exact List.perm_middle.symm
theorem fills_eq {k:Nat} (hk:k≤rs.length):((rs.zipIdx.take k).map fun y=>(⟨0,y.2,y.1⟩:El Bytes)).map itm=fills rs k:=by
  unfold fills
  refine List.ext_getElem (by simp;omega) fun i h1 h2=>?_
  have hi:i<rs.length:=by simp at h2;omega
  simp only [List.getElem_map,List.getElem_take,List.getElem_zipIdx,List.getElem_range,itm]
  rw [List.getD_eq_getElem?_getD,List.getElem?_eq_getElem hi]
  simp
theorem RefJ.start (hv:valid l=true) (hM:0<M) (hl:0<rs.length) (hn:next=min M rs.length):RefJ l M rs next (fills rs next) [[]]:=by
  subst hn
  have hs:=Srt.start_spec (cmpL_ok l) M rs
  have hd:rs.zipIdx.drop (min M rs.length)=rs.zipIdx.drop M:=by
    by_cases hM:M≤rs.length
    · rw [Nat.min_eq_left hM]
    · rw [Nat.min_eq_right (by omega),zip_done (Nat.le_refl _),zip_done (by omega)]
  have ht:rs.zipIdx.take (min M rs.length)=rs.zipIdx.take M:=by
    by_cases hM:M≤rs.length
    · rw [Nat.min_eq_left hM]
    · rw [Nat.min_eq_right (by omega),List.take_of_length_le (by simp),List.take_of_length_le (by simp;omega)]
  have hp:=fillE_perm (c:=cmpL l) (rs.zipIdx.take M) []
  rw [List.nil_append] at hp
  have hfl:=hs.2
  refine ⟨Srt.fillE (cmpL l) (rs.zipIdx.take M),[],by rw [hd];exact hs.1,fun hnil=>?_,?_,?_,.inr ⟨rfl,fun hnil=>?_,fun e he=>?_⟩,Nat.min_le_right _ _,hv⟩
  · rw [hnil] at hfl;simp at hfl;omega
  · rw [hd]
    unfold selA Srt.runsT
    rw [hs.2]
    exact sel_any _ _ _ _ _ (by rw [hs.2];exact Nat.le_refl _) (by rw [hs.2];simp;omega)
  · rw [← fills_eq (Nat.min_le_right _ _),ht]
    exact (List.Perm.map itm hp).symm
  · rw [hnil] at hfl;simp at hfl;omega
  · obtain ⟨y,_,rfl⟩:=List.mem_map.1 (hp.mem_iff.1 he);rfl
theorem flat_count:∀ (ls:List (List (Bytes × Nat))),(∀ x∈ls,x≠[])→ls.length≤ls.flatten.length
  | [],_=>Nat.le_refl _
  | x::r,hx=>by
    rw [List.flatten_cons,List.length_append,List.length_cons]
    have h1:=List.length_pos_iff.2 (hx x List.mem_cons_self)
    have h2:=flat_count r fun y hy=>hx y (List.mem_cons_of_mem _ hy)
    omega
theorem map_at {rws:List Rw} {i:Nat} : (rws.map Rw.s).getD i []=(rws.getD i default).s:=by
  rw [List.getD_eq_getElem?_getD,List.getElem?_map,List.getD_eq_getElem?_getD]
  cases rws[i]? <;> rfl
theorem RefJ.small (h:RefJ l M rs next ms X):X.length≤rs.length+1∧ms.length≤rs.length∧0<X.length∧(∀ i,(X.getD i []).length≤rs.length)∧ms.length+(rs.length-next)≤rs.length:=by
  obtain ⟨mem,out,h⟩:=h
  have hp:=h.sel.perm.length_eq
  simp only [List.length_append,List.length_map,List.length_zipIdx,List.length_drop] at hp
  have hy:=h.perm.length_eq
  rw [List.length_map] at hy
  have hk:=flat_count out h.sel.ne
  have hi:∀ i,((out.map (List.map Prod.fst)).getD i []).length≤out.flatten.length:=fun i=>by
    rw [Srt.getD_map,List.length_map]
    by_cases hi:i<out.length
    · exact (List.sublist_flatten_of_mem (getD_mem (d:=[]) hi)).length_le
    · rw [Srt.getD_none (by omega)];exact Nat.zero_le _
  rcases h.xl with ⟨hx,h1,h2⟩ | ⟨hx,h1,h2,h3⟩
  · have:=List.length_pos_iff.2 h2
    refine ⟨by omega,by omega,by omega,fun i=>?_,by omega⟩
    have:=hi i;rw [← h1] at this;omega
  · refine ⟨by omega,by omega,by omega,fun i=>?_,by omega⟩
    rw [h1]
    by_cases hi2:i<(out.map (List.map Prod.fst)).length
    · rw [Srt.getD_append_left hi2];have:=hi i;omega
    · rw [List.getD_eq_getElem?_getD,List.getElem?_append_right (by omega)]
      cases i-(out.map (List.map Prod.fst)).length <;> exact Nat.zero_le _
theorem RefJ.short (h:RefJ l M rs next ms X) {n:Nat} (hq:∀ i,(rs.getD i []).length≤n) (i:Nat):(ms.getD i default).s.length≤n:=by
  by_cases hi:i<ms.length
  · obtain ⟨mem,out,h⟩:=h
    obtain ⟨e,he,hie⟩:=List.mem_map.1 (h.perm.mem_iff.1 (getD_mem (d:=default) hi))
    rw [← hie]
    have h1:e.tag∈rs.zipIdx:=h.sel.perm.mem_iff.1 (List.mem_append_left _ (List.mem_append_right _ (List.mem_map_of_mem he)))
    have h2:=List.mem_zipIdx h1
    have h3:e.x=rs.getD e.no []:=by
      have hlt:e.no<rs.length:=by have:=h2.2.1;simpa using this
      rw [List.getD_eq_getElem?_getD,List.getElem?_eq_getElem hlt]
      have:=h2.2.2;simpa using this
    show e.x.length≤n
    rw [h3];exact hq _
  · rw [getD_out (by omega)];exact Nat.zero_le _
end
section
variable {l:List SortField} {M next:Nat} {rs:List Bytes} {ms:List item} {rws:List Rw} {k:Nat} {r:Int} {z:Rw} {A:Option Addr} {cc:Nat}
abbrev er (ms:List item) (k:Nat):List item:=(([]:List item)++((ms.drop 0).take (k-0)))++((ms.drop (k+1)).take (ms.length-(k+1)))
end
end R44
end Go.Proofs.YtggobegaiijhhaaGreatDoor
namespace Go.Proofs.YtggobegaiijhhaaGreatDoor
open Go.GV
namespace R44
open Srt (Cmp)
variable {c:Bytes→Bytes→Int}
theorem ins_at (hc:Cmp c):∀ {L:List Bytes} {x:Bytes} {j:Nat},Srt.Ordered c L→j≤L.length→(∀ i,j≤i→i<L.length→c (L.getD i []) x > 0)→(0<j→¬ c (L.getD (j-1) []) x > 0)→Srt.ins c L x=L.take j++x::L.drop j
  | [],x,j,_,hj,_,_=>by
    have:j=0:=by simpa using hj
    subst this;rfl
  | y::r,x,0,_,_,h1,_=>by
    have:=h1 0 (Nat.le_refl _) (by simp)
    rw [Srt.ins,if_neg (by simp at this;omega)];rfl
  | y::r,x,j+1,ho,hj,h1,h2=>by
    have ho':=List.pairwise_cons.1 ho
    have hx:c y x≤0:=by
      have h2:=h2 (by omega)
      rw [Nat.add_sub_cancel] at h2
      cases j with
      | zero=>simp at h2;omega
      | succ j =>
        have hj2:j<r.length:=by simp at hj;omega
        have e:(y::r).getD (j+1) []=r.getD j []:=rfl
        rw [e] at h2
        exact hc.trans _ _ _ (ho'.1 _ (getD_mem (d:=[]) hj2)) (by omega)
    rw [Srt.ins,if_pos hx,ins_at hc (j:=j) ho'.2 (by simpa using hj) (fun i hi hl=>by have:=h1 (i+1) (by omega) (by simp;omega);exact this) (fun h0=>?_)]
    · rfl
    · have h2:=h2 (by omega)
      rw [Nat.add_sub_cancel] at h2
      have:(y::r).getD j []=r.getD (j-1) []:=by
        conv=>lhs;rw [show j=(j-1)+1 by omega]
        rfl
      rwa [this] at h2
def mergeV (l:List SortField) (ls:List (List Bytes)):List Bytes:=if valid l=true then Srt.merge (cmpL l) ls else []
theorem mergeV_no {l:List SortField} {ls:List (List Bytes)} (h:valid l=false):[]=mergeV l ls:=by unfold mergeV;rw [h];rfl
theorem inner_len {lists:List Rw} (k:Nat):(lists.getD k default).s.length≤(lists.map Rw.s).flatten.length:=by
  by_cases hk:k<lists.length
  · rw [← map_at]
    exact (List.sublist_flatten_of_mem (getD_mem (d:=[]) (by rw [List.length_map];exact hk))).length_le
  · rw [getD_out (by omega)];exact Nat.zero_le _
def BI (c:Bytes→Bytes→Int) (ls:List (List Bytes)) (k:Nat) (b:Int):Prop:=b=match Srt.best c ls k with | some i=>(i:Int) | none=>-1
section
variable {ls:List (List Bytes)} {k:Nat} {b:Int}
theorem BI.zero:BI c ls 0 (-1):=rfl
theorem BI.some_ (h:BI c ls k b) (h0:0≤b):Srt.best c ls k=some b.toNat:=by
  unfold BI at h
  cases hb:Srt.best c ls k with
  | none=>rw [hb] at h;simp only at h;omega
  | some i=>rw [hb] at h;simp only at h;rw [h];rfl
theorem BI.none_ (h:BI c ls k b) (h0:b<0):Srt.best c ls k=none:=by
  unfold BI at h
  cases hb:Srt.best c ls k with
  | none=>rfl
  | some i=>rw [hb] at h;simp only at h;omega
theorem BI.bd (hc:Cmp c) (h:BI c ls k b) : -1≤b∧b<(k:Int):=by
  have hs:=Srt.best_spec hc ls k
  unfold BI at h
  cases hb:Srt.best c ls k with
  | none=>rw [hb] at h;simp only at h;omega
  | some i=>rw [hb] at h hs;simp only at h;have:=hs.1;omega
theorem BI.head (hc:Cmp c) (h:BI c ls k b) (h0:0≤b):ls.getD b.toNat []≠[]:=by
  have hs:=Srt.best_spec hc ls k
  rw [h.some_ h0] at hs
  obtain ⟨_,x,r,h2,_⟩:=hs
  rw [h2];exact List.cons_ne_nil _ _
theorem BI.skip (h:BI c ls k b) (hk:ls.getD k []=[]):BI c ls (k+1) b:=by unfold BI at *;rw [Srt.best_nil hk];exact h
theorem BI.new (h:BI c ls k b) (h0:b<0) {x:Bytes} {r:List Bytes} (hk:ls.getD k []=x::r):BI c ls (k+1) (k:Int):=by
  have:=h.none_ h0
  unfold BI;rw [Srt.best_new hk this]
theorem BI.lt (h:BI c ls k b) (h0:0≤b) {x y:Bytes} {r s:List Bytes} (hk:ls.getD k []=x::r) (hb:ls.getD b.toNat []=y::s) (hlt:c x y<0):BI c ls (k+1) (k:Int):=by
  have:=h.some_ h0
  unfold BI;rw [Srt.best_lt hk this hb hlt]
theorem BI.ge (h:BI c ls k b) (h0:0≤b) {x y:Bytes} {r s:List Bytes} (hk:ls.getD k []=x::r) (hb:ls.getD b.toNat []=y::s) (hlt:¬ c x y<0):BI c ls (k+1) b:=by
  have h1:=h.some_ h0
  unfold BI;rw [Srt.best_ge hk h1 hb hlt];simp only;omega
end
def MergeJ (c:Bytes→Bytes→Int) (ls:List (List Bytes)) (out:List Bytes) (rest:List (List Bytes)):Prop:=out++Srt.merge c rest=Srt.merge c ls∧out.length+rest.flatten.length=ls.flatten.length
section
variable {ls rest:List (List Bytes)} {out:List Bytes} {b:Int}
theorem MergeJ.start:MergeJ c ls [] ls:=⟨rfl,by simp⟩
theorem MergeJ.less {b:Nat} {x:Bytes} {r:List Bytes} (_h:MergeJ c ls out rest) (hx:rest.getD b []=x::r):(rest.set b r).flatten.length<rest.flatten.length:=by
  have:=Srt.set_total hx
  unfold Srt.total at this;omega
theorem MergeJ.step (h:MergeJ c ls out rest) (hb:BI c rest rest.length b) (h0:0≤b) {x:Bytes} {r:List Bytes} (hx:rest.getD b.toNat []=x::r):MergeJ c ls (out++[x]) (rest.set b.toNat r):=by
  refine ⟨?_,?_⟩
  · rw [← h.1,Srt.merge_some (hb.some_ h0) hx];simp
  · have:=Srt.set_total hx
    have:=h.2
    unfold Srt.total at *
    rw [List.length_append,List.length_singleton];omega
theorem MergeJ.done (h:MergeJ c ls out rest) (hb:BI c rest rest.length b) (h0:b<0):out=Srt.merge c ls:=by
  rw [← h.1,Srt.merge_none (hb.none_ h0),List.append_nil]
end
def AtOk (lists:List Rw) (ats:List Int):Prop:=ats.length=lists.length ∧ ∀ k,0≤ats.getD k 0∧ats.getD k 0≤((lists.getD k default).s.length:Int)
def rest (lists:List Rw) (ats:List Int):List (List Bytes):=(List.range lists.length).map fun k=>(lists.getD k default).s.drop (ats.getD k 0).toNat
section
variable {lists:List Rw} {ats:List Int} {k:Nat}
end
end R44
end Go.Proofs.YtggobegaiijhhaaGreatDoor
namespace Go.Proofs.YtggobegaiijhhaaGreatDoor
open Go.GV
namespace R44
open Srt (Cmp)
section
variable {c:Bytes→Bytes→Int} {rest lists:List Rw} {k:Nat} {b:Int}
theorem set_getW {x:Rw} {j i:Nat} : (rest.set j x).getD i default=if j=i∧j<rest.length then x else rest.getD i default:=by
  rw [List.getD_eq_getElem?_getD,List.getElem?_set]
  by_cases h:j=i
  · subst h
    by_cases h2:j<rest.length
    · rw [if_pos rfl,if_pos h2,if_pos ⟨rfl,h2⟩];rfl
    · rw [if_pos rfl,if_neg h2,if_neg (fun h=>h2 h.2),List.getD_eq_getElem?_getD,List.getElem?_eq_none (by omega)]
  · rw [if_neg h,if_neg (fun h2=>h h2.1),← List.getD_eq_getElem?_getD]
theorem ron_set {S:List Nat} {w:World} (h:∀ i:Nat,RO S w (rest.getD i default).sA ((rest.getD i default).s.map vS)) {j:Nat} {x:Rw} (hx:RO S w x.sA (x.s.map vS)) (i:Nat):RO S w ((rest.set j x).getD i default).sA (((rest.set j x).getD i default).s.map vS):=by
  rw [set_getW];split
  · exact hx
  · exact h i
theorem cap_set (h:∀ i:Nat,(rest.getD i default).s.length≤(rest.getD i default).sC) {j:Nat} {A:Option Addr} (i:Nat):((rest.set j (Rw.mk ((rest.getD j default).s.drop 1) A ((rest.getD j default).sC-1))).getD i default).s.length≤((rest.set j (Rw.mk ((rest.getD j default).s.drop 1) A ((rest.getD j default).sC-1))).getD i default).sC:=by
  rw [set_getW];split
  · show ((rest.getD j default).s.drop 1).length≤(rest.getD j default).sC-1
    have:=h j
    rw [List.length_drop];omega
  · exact h i
theorem rw_nil (h:(rest.getD k default).s.length≤0):(rest.map Rw.s).getD k []=[]:=by
  rw [map_at];exact List.length_eq_zero_iff.1 (by omega)
theorem rw_cons (h:0<(rest.getD k default).s.length):(rest.map Rw.s).getD k []=(rest.getD k default).s.getD 0 []::(rest.getD k default).s.drop 1:=by
  rw [map_at];exact drop_cons (d:=[]) (k:=0) h
def Subs (lists rest:List Rw):Prop:=∀ k,∃ j,(rest.getD k default).s=(lists.getD k default).s.drop j
theorem Subs.start:Subs lists lists:=fun _=>⟨0,rfl⟩
theorem Subs.step (h:Subs lists rest) (b:Nat) (A:Option Addr) (C:Nat):Subs lists (rest.set b (Rw.mk ((rest.getD b default).s.drop 1) A C)):=fun k=>by
  rw [set_getW]
  split
  · rename_i h1
    obtain ⟨j,hj⟩:=h k
    refine ⟨j+1,?_⟩
    rw [h1.1]
    show (rest.getD k default).s.drop 1=_
    rw [hj,List.drop_drop]
  · exact h k
theorem Subs.short (h:Subs lists rest) {n:Nat} (hq:∀ i j,((lists.getD i default).s.getD j []).length≤n) (k j:Nat):((rest.getD k default).s.getD j []).length≤n:=by
  obtain ⟨i,hi⟩:=h k
  rw [hi,List.getD_eq_getElem?_getD,List.getElem?_drop,← List.getD_eq_getElem?_getD];exact hq k _
theorem posS (hb:BI c (rest.map Rw.s) k b) (hc:Cmp c) (hk:k≤rest.length) : -1≤b∧b<(k:Int)∧(0≤b→b.toNat<rest.length∧0<(rest.getD b.toNat default).s.length):=by
  have h1:=hb.bd hc
  refine ⟨h1.1,h1.2,fun h0=>⟨by omega,?_⟩⟩
  have h2:=hb.head hc h0
  rw [map_at] at h2
  exact List.length_pos_iff.2 h2
theorem set_drop {j:Nat} {x:Rw} : (rest.set j x).map Rw.s=(rest.map Rw.s).set j x.s:=List.map_set
section
variable {ls:List (List Bytes)} {out:List Bytes}
theorem mj_yield (h:MergeJ c ls out (rest.map Rw.s)) (hb:BI c (rest.map Rw.s) k b) (hk:k=rest.length) (h0:0≤b) (hl:0<(rest.getD b.toNat default).s.length):Srt.merge c ls=out++(rest.getD b.toNat default).s.getD 0 []::Srt.merge c ((rest.map Rw.s).set b.toNat ((rest.getD b.toNat default).s.drop 1)):=by
  have hb2:=hb.some_ h0
  rw [← h.1,Srt.merge_some (by rw [List.length_map,← hk];exact hb2) (rw_cons hl)]
theorem mj_step (hc:Cmp c) (h:MergeJ c ls out (rest.map Rw.s)) (hb:BI c (rest.map Rw.s) k b) (hk:k=rest.length) (h0:0≤b) {A:Option Addr} {C:Nat} : MergeJ c ls (out++[(rest.getD b.toNat default).s.getD 0 []]) ((rest.set b.toNat (Rw.mk ((rest.getD b.toNat default).s.drop 1) A C)).map Rw.s):=by
  have hp:=(posS hb hc (by omega)).2.2 h0
  rw [set_drop]
  exact h.step (by rw [List.length_map,← hk];exact hb) h0 (rw_cons hp.2)
theorem mj_less {A:Option Addr} {C:Nat} (h0:0≤b) (h:0≤b→b.toNat<rest.length∧0<(rest.getD b.toNat default).s.length):((rest.set b.toNat (Rw.mk ((rest.getD b.toNat default).s.drop 1) A C)).map Rw.s).flatten.length<(rest.map Rw.s).flatten.length:=by
  have:=Srt.set_total (rw_cons (h h0).2)
  unfold Srt.total at this
  rw [set_drop]
  show ((rest.map Rw.s).set b.toNat ((rest.getD b.toNat default).s.drop 1)).flatten.length<_
  omega
theorem mj_done (h:MergeJ c ls out (rest.map Rw.s)) (hb:BI c (rest.map Rw.s) k b) (hk:k=rest.length) (h0:b<0):out=Srt.merge c ls:=
  h.done (by rw [List.length_map,← hk];exact hb) h0
end
end
theorem merge_pre {c:Bytes→Bytes→Int} (hc:Cmp c) {ls:List (List Bytes)} {n:Nat} (hn:ls.flatten.length≤n) {pre rest:List Bytes} {a:Bytes} (h:Srt.merge c ls=pre++a::rest):pre.length<n:=by
  have h1:=(Srt.merge_perm hc ls).length_eq
  rw [h] at h1
  simp only [List.length_append,List.length_cons] at h1
  omega
theorem mergeV_yes {l:List SortField} {ls:List (List Bytes)} (h:valid l=true):Srt.merge (cmpL l) ls=mergeV l ls:=by unfold mergeV;rw [if_pos h]
end R44
end Go.Proofs.YtggobegaiijhhaaGreatDoor
namespace Go.Proofs.YtggobegaiijhhaaGreatDoor
open Go.GV
namespace R44
open Srt (Cmp)
theorem ix_yes {l:List Bytes} {k:Nat} (hk:k<l.length) (h:1000<(l.getD k []).length):decide (0≤((k:Nat):Int))=long l:=by
  rw [← long_hit hk h];exact decide_eq_true (by omega)
theorem ix_no {l:List Bytes} (h:∀ i,i<l.length→(l.getD i []).length≤1000):decide (0≤(-1:Int))=long l:=by rw [← long_none h];rfl
def inR (f:Bytes→Bytes × Bool) (rs:List Bytes):List Bytes × Int × Int:=match inputs f rs with
  | some out=>(out,(rs.length:Int)-(out.length:Int),0)
  | none=>([],0,8)
theorem inR_end {f:Bytes→Bytes × Bool} {rs out:List Bytes} (h:inputs f rs=some out):(out,(rs.length:Int)-(out.length:Int),0)=inR f rs:=by unfold inR;rw [h]
end R44
end Go.Proofs.YtggobegaiijhhaaGreatDoor
