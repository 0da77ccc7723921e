/- Pl44e, Pl44f, Pl44g, Pl44h, Pl44i, Pl44j in one text. -/
import Derived.Test.YtggobegaiijhhaaGreatDoorUtilitySorts15
import Derived.Test.YtggobegaiijhhaaGreatDoorUtilitySorts7
set_option linter.unusedVariables false
set_option linter.unusedSimpArgs false
namespace Go.Proofs.YtggobegaiijhhaaGreatDoor
open Go.GV
namespace R44
open Srt (Cmp El Sel)
theorem cmpV_eq {l:List SortField} (h:valid l=true):cmpV l=cmpL l:=by funext a b;unfold cmpV;rw [if_pos h]
def ile (c:Bytes→Bytes→Int) (a b:item):Prop:=c a.s b.s<0∨(c a.s b.s=0∧a.no≤b.no)
structure Best (c:Bytes→Bytes→Int) (ms:List item) (run:Int) (k:Nat) (r:Int):Prop where
  bd : -1≤r∧r<(k:Int)
  non:r<0 → ∀ i,i<k→(ms.getD i default).run≠run
  som:0≤r→(ms.getD r.toNat default).run=run ∧ ∀ i,i<k→(ms.getD i default).run=run→ile c (ms.getD r.toNat default) (ms.getD i default)
section
variable {c:Bytes→Bytes→Int} {ms:List item} {run r:Int} {k:Nat}
theorem Best.skip (h:Best c ms run k r) (hr:(ms.getD k default).run≠run):Best c ms run (k+1) r:=by
  have hb:=h.bd
  refine ⟨by omega,fun h0 i hi=>?_,fun h0=>⟨(h.som h0).1,fun i hi he=>?_⟩⟩
  · by_cases e:i=k
    · subst e;exact hr
    · exact h.non h0 i (by omega)
  · by_cases e:i=k
    · subst e;exact absurd he hr
    · exact (h.som h0).2 i (by omega) he
theorem Best.first (hc:Cmp c) (h:Best c ms run k r) (h0:r<0) (hr:¬ (ms.getD k default).run≠run):Best c ms run (k+1) (k:Int):=by
  refine ⟨by omega,fun h1=>by omega,fun _=>⟨?_,fun i hi he=>?_⟩⟩
  · rw [Int.toNat_natCast];exact Decidable.not_not.1 hr
  · rw [Int.toNat_natCast]
    by_cases e:i=k
    · subst e;exact .inr ⟨hc.self _,Int.le_refl _⟩
    · exact absurd he (h.non h0 i (by omega))
theorem Best.keep (hc:Cmp c) (h:Best c ms run k r) (h0:0≤r) (hk:0<c (ms.getD k default).s (ms.getD r.toNat default).s∨(c (ms.getD k default).s (ms.getD r.toNat default).s=0∧(ms.getD r.toNat default).no<(ms.getD k default).no)):Best c ms run (k+1) r:=by
  have hb:=h.bd
  refine ⟨by omega,fun h1=>by omega,fun _=>⟨(h.som h0).1,fun i hi he=>?_⟩⟩
  by_cases e:i=k
  · subst e
    have:=hc.anti (ms.getD r.toNat default).s (ms.getD i default).s
    unfold ile;omega
  · exact (h.som h0).2 i (by omega) he
theorem Best.swap (hc:Cmp c) (h:Best c ms run k r) (h0:0≤r) (hr:¬ (ms.getD k default).run≠run) (hk:¬ (0<c (ms.getD k default).s (ms.getD r.toNat default).s∨(c (ms.getD k default).s (ms.getD r.toNat default).s=0∧(ms.getD r.toNat default).no<(ms.getD k default).no))):Best c ms run (k+1) (k:Int):=by
  refine ⟨by omega,fun h1=>by omega,fun _=>⟨?_,fun i hi he=>?_⟩⟩
  · rw [Int.toNat_natCast];exact Decidable.not_not.1 hr
  · rw [Int.toNat_natCast]
    by_cases e:i=k
    · subst e;exact .inr ⟨hc.self _,Int.le_refl _⟩
    · have h1:=(h.som h0).2 i (by omega) he
      unfold ile at *
      have t1:=hc.trans (ms.getD k default).s (ms.getD r.toNat default).s (ms.getD i default).s
      have t2:=hc.trans (ms.getD i default).s (ms.getD k default).s (ms.getD r.toNat default).s
      have a1:=hc.anti (ms.getD k default).s (ms.getD i default).s
      have a2:=hc.anti (ms.getD r.toNat default).s (ms.getD i default).s
      have a3:=hc.anti (ms.getD k default).s (ms.getD r.toNat default).s
      have t3:=hc.trans (ms.getD r.toNat default).s (ms.getD i default).s (ms.getD k default).s
      omega
theorem best_lt (h:Best c ms run ms.length (k:Int)):k<ms.length:=by have:=h.bd;omega
end
def itm (e:El Bytes):item:=⟨e.x,(e.run:Int)+1,(e.no:Int)⟩
structure RefI (l:List SortField) (M:Nat) (rs:List Bytes) (next:Nat) (ms:List item) (X:List (List Bytes)) (mem:List (El Bytes)) (out:List (List (Bytes × Nat))):Prop where
  sel:Sel (cmpL l) M rs.zipIdx mem (rs.zipIdx.drop next) out 0
  dry:mem=[]→rs.zipIdx.drop next=[]
  eq:selA (cmpL l) mem (rs.zipIdx.drop next) out=Srt.runsT (cmpL l) M rs
  perm:ms.Perm (mem.map itm)
  rows:(X=out.map (List.map Prod.fst)∧out≠[])∨(X=out.map (List.map Prod.fst)++[[]]∧mem≠[] ∧ ∀ e∈mem,e.run=out.length)
  nx:next≤rs.length
  val:valid l=true
def RefJ (l:List SortField) (M:Nat) (rs:List Bytes) (next:Nat) (ms:List item) (X:List (List Bytes)):Prop:=∃ mem out,RefI l M rs next ms X mem out
section
variable {l:List SortField} {M next:Nat} {rs:List Bytes} {ms ms':List item} {X:List (List Bytes)} {mem:List (El Bytes)} {out:List (List (Bytes × Nat))} {k:Nat}
theorem getD_ex {α:Type} {l:List α} {x d:α} (h:x∈l):∃ i,i<l.length∧l.getD i d=x:=by
  obtain ⟨i,hi,e⟩:=List.mem_iff_getElem.1 h
  exact ⟨i,hi,by rw [List.getD_eq_getElem?_getD,List.getElem?_eq_getElem hi];exact e⟩
theorem RefI.xl (h:RefI l M rs next ms X mem out):(X.length=out.length∧X=out.map (List.map Prod.fst)∧out≠[])∨(X.length=out.length+1∧X=out.map (List.map Prod.fst)++[[]]∧mem≠[] ∧ ∀ e∈mem,e.run=out.length):=by
  rcases h.rows with ⟨h1,h2⟩ | ⟨h1,h2,h3⟩
  · exact .inl ⟨by rw [h1,List.length_map],h1,h2⟩
  · exact .inr ⟨by rw [h1];simp,h1,h2,h3⟩
theorem RefI.pick (h:RefI l M rs next ms X mem out) (hb:Best (cmpV l) ms (X.length:Int) ms.length (k:Int)):∃ e r,mem=e::r∧ms.getD k default=itm e∧e.run+1=X.length:=by
  have hk:=best_lt hb
  obtain ⟨b1,b2⟩:=hb.som (by omega)
  rw [Int.toNat_natCast] at b1 b2
  obtain ⟨f,hf,hfe⟩:=List.mem_map.1 (h.perm.mem_iff.1 (getD_mem (d:=default) hk))
  have hrun:f.run+1=X.length:=by
    rw [← hfe] at b1
    have:((f.run:Int)+1)=(X.length:Int):=b1
    omega
  cases hm:mem with
  | nil=>rw [hm] at hf;cases hf
  | cons e r =>
    refine ⟨e,r,rfl,?_⟩
    rw [hm] at hf
    rcases List.mem_cons.1 hf with rfl | hf
    · exact ⟨hfe.symm,hrun⟩
    exfalso
    have hsel:=h.sel
    rw [hm] at hsel
    have hlt:=(List.pairwise_cons.1 hsel.ord).1 f hf
    have he:e.run=f.run:=by
      have h1:=hsel.runsE e List.mem_cons_self
      have h2:e.run≤f.run:=by rcases hlt with hlt | ⟨hlt,_⟩ <;> omega
      rcases h.xl with ⟨hx,_⟩ | ⟨hx,_,_,hall⟩
      · omega
      · have:=hall e (by rw [hm];exact List.mem_cons_self);omega
    obtain ⟨i,hi,hie⟩:=getD_ex (d:=default) (h.perm.mem_iff.2 (List.mem_map_of_mem (f:=itm) (show e∈mem by rw [hm];exact List.mem_cons_self)))
    have h3:=b2 i hi (by rw [hie];show (e.run:Int)+1=_;omega)
    rw [hie,← hfe,cmpV_eq h.val] at h3
    have hc:=cmpL_ok l
    have h4:=hc.anti f.x e.x
    rcases hlt with hlt | ⟨_,hlt⟩
    · omega
    · have h5:cmpL l f.x e.x<0∨(cmpL l f.x e.x=0∧(f.no:Int)≤(e.no:Int)):=h3
      have h6:cmpL l e.x f.x<0∨(cmpL l e.x f.x=0∧e.no<f.no):=hlt
      omega
theorem set_map {out:List (List (Bytes × Nat))} {p:Bytes × Nat} {n:Nat} : (out.set n (out.getD n []++[p])).map (List.map Prod.fst)=(out.map (List.map Prod.fst)).set n ((out.map (List.map Prod.fst)).getD n []++[p.1]):=by
  rw [List.map_set,List.map_append,Srt.getD_map];rfl
theorem RefI.put (h:RefI l M rs next ms X mem out) {e:El Bytes} {r:List (El Bytes)} (_hm:mem=e::r) (he:e.run+1=X.length) :
    X.set (X.length-1) (X.getD (X.length-1) []++[e.x])=(Srt.putR out e.run e.tag).map (List.map Prod.fst)∧Srt.putR out e.run e.tag≠[]:=by
  unfold Srt.putR
  rcases h.xl with ⟨hx,h1,h2⟩ | ⟨hx,h1,h2,h3⟩
  · rw [if_neg (by omega)]
    refine ⟨?_,fun e=>h2 ?_⟩
    · rw [set_map,← h1,show X.length-1=e.run by omega];rfl
    · have:=congrArg List.length e;rw [List.length_set] at this;exact List.length_eq_zero_iff.1 this
  · rw [if_pos (by omega)]
    refine ⟨?_,by simp⟩
    rw [h1,List.length_append,List.length_map,List.length_singleton,Nat.add_sub_cancel]
    have hl:(out.map (List.map Prod.fst)).length=out.length:=List.length_map _
    rw [List.set_append_right _ _ (by omega),hl,Nat.sub_self,List.getD_eq_getElem?_getD,List.getElem?_append_right (by omega),hl,Nat.sub_self,List.map_append]
    rfl
theorem pop_mem {e:El Bytes} {r:List (El Bytes)} (hp:ms.Perm ((e::r).map itm)) (he:ms.getD k default=itm e) (hq:ms.Perm (ms.getD k default::ms')):ms'.Perm (r.map itm):=by
  rw [he] at hq
  have h:=hq.symm.trans hp
  rw [List.map_cons] at h
  exact (List.perm_cons (itm e)).1 h
theorem RefJ.dry (h:RefJ l M rs next ms X) (hb:Best (cmpV l) ms (X.length:Int) ms.length (k:Int)) (hn:¬ next<rs.length) (hp:ms.Perm (ms.getD k default::ms')) :
    RefJ l M rs next ms' (X.set (X.length-1) (X.getD (X.length-1) []++[(ms.getD k default).s])):=by
  obtain ⟨mem,out,h⟩:=h
  obtain ⟨e,r,hm,he,hr⟩:=h.pick hb
  have hput:=h.put hm hr
  subst hm
  have hd:=zip_done (rs:=rs) (k:=next) (by omega)
  have hs:=h.sel
  have heq:=h.eq
  rw [hd] at hs heq
  refine ⟨r,Srt.putR out e.run e.tag,?_,fun _=>hd,?_,pop_mem h.perm he hp,.inl ⟨?_,hput.2⟩,h.nx,h.val⟩
  · rw [hd];exact hs.pop.1.dry
  · rw [hd,← heq,selA_dry]
  · rw [he];exact hput.1
theorem RefJ.go (h:RefJ l M rs next ms X) (hb:Best (cmpV l) ms (X.length:Int) ms.length (k:Int)) (hn:next<rs.length) (hp:ms.Perm (ms.getD k default::ms')) {run:Int}
    (hrun:run=if cmpV l (rs.getD next []) (ms.getD k default).s<0 then (X.length:Int)+1 else (X.length:Int)) :
    RefJ l M rs (next+1) (ms'++[item.mk (rs.getD next []) run (next:Int)]) (X.set (X.length-1) (X.getD (X.length-1) []++[(ms.getD k default).s])):=by
  obtain ⟨mem,out,h⟩:=h
  obtain ⟨e,r,hm,he,hr⟩:=h.pick hb
  have hput:=h.put hm hr
  subst hm
  have hd:=zip_drop hn
  have hs:=h.sel
  have heq:=h.eq
  rw [hd] at hs heq
  obtain ⟨p1,p2,p3,p4⟩:=hs.pop
  have hpush:=p1.push (cmpL_ok l) p2 p3 p4
  rw [he,cmpV_eq h.val] at hrun
  have hr2:run=((if cmpL l (rs.getD next []) e.x<0 then e.run+1 else e.run:Nat):Int)+1:=by
    rw [hrun]
    show (if cmpL l (rs.getD next []) e.x<0 then (X.length:Int)+1 else (X.length:Int))=_
    split <;> omega
  refine ⟨_,_,hpush,fun hnil=>?_,?_,?_,.inl ⟨?_,hput.2⟩,by omega,h.val⟩
  · have:=congrArg List.length hnil
    rw [(Srt.insE_perm _ _).length_eq] at this;simp at this
  · rw [← heq,selA_go]
  · have hq:=pop_mem h.perm he hp
    have h3:=(Srt.insE_perm (c:=cmpL l) r ⟨if cmpL l (rs.getD next [],next).1 e.x<0 then e.run+1 else e.run,(rs.getD next [],next).2,(rs.getD next [],next).1⟩).map itm
    refine List.Perm.trans ?_ h3.symm
    rw [List.map_cons]
    refine (List.perm_append_singleton _ _).trans ?_
    have:item.mk (rs.getD next []) run (next:Int)=itm ⟨if cmpL l (rs.getD next [],next).1 e.x<0 then e.run+1 else e.run,(rs.getD next [],next).2,(rs.getD next [],next).1⟩:=by rw [hr2];rfl
    rw [this]
    exact hq.cons _
  · rw [he];exact hput.1
theorem RefJ.fresh {r:Int} (h:RefJ l M rs next ms X) (hb:Best (cmpV l) ms (X.length:Int) ms.length r) (h0:r<0) (hl:0<ms.length):RefJ l M rs next ms (X++[[]])∧X.getD (X.length-1) []≠[]:=by
  obtain ⟨mem,out,h⟩:=h
  have hno:∀ e∈mem,(e.run:Int)+1≠(X.length:Int):=fun e he=>by
    obtain ⟨i,hi,hie⟩:=getD_ex (d:=default) (h.perm.mem_iff.2 (List.mem_map_of_mem (f:=itm) he))
    have:=hb.non h0 i hi
    rw [hie] at this;exact this
  have hne:mem≠[]:=fun e=>by have:=h.perm.length_eq;rw [e] at this;simp at this;rw [this] at hl;exact absurd hl (by simp)
  rcases h.xl with ⟨hx,h1,h2⟩ | ⟨hx,h1,h2,h3⟩
  · refine ⟨⟨mem,out,h.sel,h.dry,h.eq,h.perm,.inr ⟨by rw [h1],hne,fun e he=>?_⟩,h.nx,h.val⟩,?_⟩
    · have:=h.sel.runsE e he;have:=hno e he;omega
    · rw [h1,Srt.getD_map,List.length_map]
      have hol:0<out.length:=List.length_pos_iff.2 h2
      have:=h.sel.ne (out.getD (out.length-1) []) (getD_mem (by omega))
      intro hc;exact this (List.map_eq_nil_iff.1 hc)
  · exfalso
    cases hm:mem with
    | nil=>exact hne hm
    | cons e r =>
      have he:e∈mem:=by rw [hm];exact List.mem_cons_self
      have:=h3 e he;have:=hno e he;omega
theorem RefJ.fin {m:Int} (h:RefJ l m.toNat rs next ms X) (h0:¬ 0<ms.length) (hm:1≤m):X=runsV l m rs:=by
  obtain ⟨mem,out,h⟩:=h
  have hmem:mem=[]:=by
    have:=h.perm.length_eq
    simp at this
    exact List.length_eq_zero_iff.1 (by omega)
  subst hmem
  have he:=h.eq
  rw [selA_nil] at he
  unfold runsV
  rw [if_pos ⟨hm,h.val⟩]
  rcases h.rows with ⟨h1,_⟩ | ⟨_,h2,_⟩
  · rw [h1,he];rfl
  · exact absurd rfl h2
def fills (rs:List Bytes) (k:Nat):List item:=(List.range k).map fun i=>⟨rs.getD i [],1,(i:Int)⟩
theorem fillE_perm {c:Bytes→Bytes→Int} : ∀ (l:List (Bytes × Nat)) (m:List (El Bytes)),(l.foldl (fun m y=>Srt.insE c m ⟨0,y.2,y.1⟩) m).Perm (m++l.map fun y=>⟨0,y.2,y.1⟩)
  | [],m=>by simp
  | y::l,m=>by
    rw [List.foldl_cons,List.map_cons]
    refine (fillE_perm l _).trans ?_
    refine ((Srt.insE_perm (c:=c) m ⟨0,y.2,y.1⟩).append_right _).trans ?_
    exact List.perm_middle.symm
theorem fills_eq {k:Nat} (hk:k≤rs.length):((rs.zipIdx.take k).map fun y=>(⟨0,y.2,y.1⟩:El Bytes)).map itm=fills rs k:=by
  unfold fills
  refine List.ext_getElem (by simp;omega) fun i h1 h2=>?_
  have hi:i<rs.length:=by simp at h2;omega
  simp only [List.getElem_map,List.getElem_take,List.getElem_zipIdx,List.getElem_range,itm]
  rw [List.getD_eq_getElem?_getD,List.getElem?_eq_getElem hi]
  simp
theorem RefJ.start (hv:valid l=true) (hM:0<M) (hl:0<rs.length) (hn:next=min M rs.length):RefJ l M rs next (fills rs next) [[]]:=by
  subst hn
  have hs:=Srt.start_spec (cmpL_ok l) M rs
  have hd:rs.zipIdx.drop (min M rs.length)=rs.zipIdx.drop M:=by
    by_cases hM:M≤rs.length
    · rw [Nat.min_eq_left hM]
    · rw [Nat.min_eq_right (by omega),zip_done (Nat.le_refl _),zip_done (by omega)]
  have ht:rs.zipIdx.take (min M rs.length)=rs.zipIdx.take M:=by
    by_cases hM:M≤rs.length
    · rw [Nat.min_eq_left hM]
    · rw [Nat.min_eq_right (by omega),List.take_of_length_le (by simp),List.take_of_length_le (by simp;omega)]
  have hp:=fillE_perm (c:=cmpL l) (rs.zipIdx.take M) []
  rw [List.nil_append] at hp
  have hfl:=hs.2
  refine ⟨Srt.fillE (cmpL l) (rs.zipIdx.take M),[],by rw [hd];exact hs.1,fun hnil=>?_,?_,?_,.inr ⟨rfl,fun hnil=>?_,fun e he=>?_⟩,Nat.min_le_right _ _,hv⟩
  · rw [hnil] at hfl;simp at hfl;omega
  · rw [hd]
    unfold selA Srt.runsT
    rw [hs.2]
    exact sel_any _ _ _ _ _ (by rw [hs.2];exact Nat.le_refl _) (by rw [hs.2];simp;omega)
  · rw [← fills_eq (Nat.min_le_right _ _),ht]
    exact (List.Perm.map itm hp).symm
  · rw [hnil] at hfl;simp at hfl;omega
  · obtain ⟨y,_,rfl⟩:=List.mem_map.1 (hp.mem_iff.1 he);rfl
theorem flat_count:∀ (ls:List (List (Bytes × Nat))),(∀ x∈ls,x≠[])→ls.length≤ls.flatten.length
  | [],_=>Nat.le_refl _
  | x::r,hx=>by
    rw [List.flatten_cons,List.length_append,List.length_cons]
    have h1:=List.length_pos_iff.2 (hx x List.mem_cons_self)
    have h2:=flat_count r fun y hy=>hx y (List.mem_cons_of_mem _ hy)
    omega
theorem map_at {rws:List Rw} {i:Nat} : (rws.map Rw.s).getD i []=(rws.getD i default).s:=by
  rw [List.getD_eq_getElem?_getD,List.getElem?_map,List.getD_eq_getElem?_getD]
  cases rws[i]? <;> rfl
theorem RefJ.small (h:RefJ l M rs next ms X):X.length≤rs.length+1∧ms.length≤rs.length∧0<X.length∧(∀ i,(X.getD i []).length≤rs.length)∧ms.length+(rs.length-next)≤rs.length:=by
  obtain ⟨mem,out,h⟩:=h
  have hp:=h.sel.perm.length_eq
  simp only [List.length_append,List.length_map,List.length_zipIdx,List.length_drop] at hp
  have hy:=h.perm.length_eq
  rw [List.length_map] at hy
  have hk:=flat_count out h.sel.ne
  have hi:∀ i,((out.map (List.map Prod.fst)).getD i []).length≤out.flatten.length:=fun i=>by
    rw [Srt.getD_map,List.length_map]
    by_cases hi:i<out.length
    · exact (List.sublist_flatten_of_mem (getD_mem (d:=[]) hi)).length_le
    · rw [Srt.getD_none (by omega)];exact Nat.zero_le _
  rcases h.xl with ⟨hx,h1,h2⟩ | ⟨hx,h1,h2,h3⟩
  · have:=List.length_pos_iff.2 h2
    refine ⟨by omega,by omega,by omega,fun i=>?_,by omega⟩
    have:=hi i;rw [← h1] at this;omega
  · refine ⟨by omega,by omega,by omega,fun i=>?_,by omega⟩
    rw [h1]
    by_cases hi2:i<(out.map (List.map Prod.fst)).length
    · rw [Srt.getD_append_left hi2];have:=hi i;omega
    · rw [List.getD_eq_getElem?_getD,List.getElem?_append_right (by omega)]
      cases i-(out.map (List.map Prod.fst)).length <;> exact Nat.zero_le _
theorem RefJ.short (h:RefJ l M rs next ms X) {n:Nat} (hq:∀ i,(rs.getD i []).length≤n) (i:Nat):(ms.getD i default).s.length≤n:=by
  by_cases hi:i<ms.length
  · obtain ⟨mem,out,h⟩:=h
    obtain ⟨e,he,hie⟩:=List.mem_map.1 (h.perm.mem_iff.1 (getD_mem (d:=default) hi))
    rw [← hie]
    have h1:e.tag∈rs.zipIdx:=h.sel.perm.mem_iff.1 (List.mem_append_left _ (List.mem_append_right _ (List.mem_map_of_mem he)))
    have h2:=List.mem_zipIdx h1
    have h3:e.x=rs.getD e.no []:=by
      have hlt:e.no<rs.length:=by have:=h2.2.1;simpa using this
      rw [List.getD_eq_getElem?_getD,List.getElem?_eq_getElem hlt]
      have:=h2.2.2;simpa using this
    show e.x.length≤n
    rw [h3];exact hq _
  · rw [getD_out (by omega)];exact Nat.zero_le _
end
section
variable {l:List SortField} {M next:Nat} {rs:List Bytes} {ms:List item} {rws:List Rw} {k:Nat} {r:Int} {z:Rw} {A:Option Addr} {cc:Nat}
abbrev er (ms:List item) (k:Nat):List item:=(([]:List item)++((ms.drop 0).take (k-0)))++((ms.drop (k+1)).take (ms.length-(k+1)))
end
end R44
end Go.Proofs.YtggobegaiijhhaaGreatDoor
namespace Go.Proofs.YtggobegaiijhhaaGreatDoor
open Go.GV
namespace R44
open Srt (Cmp)
variable {c:Bytes→Bytes→Int}
theorem ins_at (hc:Cmp c):∀ {L:List Bytes} {x:Bytes} {j:Nat},Srt.Ordered c L→j≤L.length→(∀ i,j≤i→i<L.length→c (L.getD i []) x > 0)→(0<j→¬ c (L.getD (j-1) []) x > 0)→Srt.ins c L x=L.take j++x::L.drop j
  | [],x,j,_,hj,_,_=>by
    have:j=0:=by simpa using hj
    subst this;rfl
  | y::r,x,0,_,_,h1,_=>by
    have:=h1 0 (Nat.le_refl _) (by simp)
    rw [Srt.ins,if_neg (by simp at this;omega)];rfl
  | y::r,x,j+1,ho,hj,h1,h2=>by
    have ho':=List.pairwise_cons.1 ho
    have hx:c y x≤0:=by
      have h2:=h2 (by omega)
      rw [Nat.add_sub_cancel] at h2
      cases j with
      | zero=>simp at h2;omega
      | succ j =>
        have hj2:j<r.length:=by simp at hj;omega
        have e:(y::r).getD (j+1) []=r.getD j []:=rfl
        rw [e] at h2
        exact hc.trans _ _ _ (ho'.1 _ (getD_mem (d:=[]) hj2)) (by omega)
    rw [Srt.ins,if_pos hx,ins_at hc (j:=j) ho'.2 (by simpa using hj) (fun i hi hl=>by have:=h1 (i+1) (by omega) (by simp;omega);exact this) (fun h0=>?_)]
    · rfl
    · have h2:=h2 (by omega)
      rw [Nat.add_sub_cancel] at h2
      have:(y::r).getD j []=r.getD (j-1) []:=by
        conv=>lhs;rw [show j=(j-1)+1 by omega]
        rfl
      rwa [this] at h2
def mergeV (l:List SortField) (ls:List (List Bytes)):List Bytes:=if valid l=true then Srt.merge (cmpL l) ls else []
theorem mergeV_no {l:List SortField} {ls:List (List Bytes)} (h:valid l=false):[]=mergeV l ls:=by unfold mergeV;rw [h];rfl
theorem inner_len {lists:List Rw} (k:Nat):(lists.getD k default).s.length≤(lists.map Rw.s).flatten.length:=by
  by_cases hk:k<lists.length
  · rw [← map_at]
    exact (List.sublist_flatten_of_mem (getD_mem (d:=[]) (by rw [List.length_map];exact hk))).length_le
  · rw [getD_out (by omega)];exact Nat.zero_le _
def BI (c:Bytes→Bytes→Int) (ls:List (List Bytes)) (k:Nat) (b:Int):Prop:=b=match Srt.best c ls k with | some i=>(i:Int) | none=>-1
section
variable {ls:List (List Bytes)} {k:Nat} {b:Int}
theorem BI.zero:BI c ls 0 (-1):=rfl
theorem BI.some_ (h:BI c ls k b) (h0:0≤b):Srt.best c ls k=some b.toNat:=by
  unfold BI at h
  cases hb:Srt.best c ls k with
  | none=>rw [hb] at h;simp only at h;omega
  | some i=>rw [hb] at h;simp only at h;rw [h];rfl
theorem BI.none_ (h:BI c ls k b) (h0:b<0):Srt.best c ls k=none:=by
  unfold BI at h
  cases hb:Srt.best c ls k with
  | none=>rfl
  | some i=>rw [hb] at h;simp only at h;omega
theorem BI.bd (hc:Cmp c) (h:BI c ls k b) : -1≤b∧b<(k:Int):=by
  have hs:=Srt.best_spec hc ls k
  unfold BI at h
  cases hb:Srt.best c ls k with
  | none=>rw [hb] at h;simp only at h;omega
  | some i=>rw [hb] at h hs;simp only at h;have:=hs.1;omega
theorem BI.head (hc:Cmp c) (h:BI c ls k b) (h0:0≤b):ls.getD b.toNat []≠[]:=by
  have hs:=Srt.best_spec hc ls k
  rw [h.some_ h0] at hs
  obtain ⟨_,x,r,h2,_⟩:=hs
  rw [h2];exact List.cons_ne_nil _ _
theorem BI.skip (h:BI c ls k b) (hk:ls.getD k []=[]):BI c ls (k+1) b:=by unfold BI at *;rw [Srt.best_nil hk];exact h
theorem BI.new (h:BI c ls k b) (h0:b<0) {x:Bytes} {r:List Bytes} (hk:ls.getD k []=x::r):BI c ls (k+1) (k:Int):=by
  have:=h.none_ h0
  unfold BI;rw [Srt.best_new hk this]
theorem BI.lt (h:BI c ls k b) (h0:0≤b) {x y:Bytes} {r s:List Bytes} (hk:ls.getD k []=x::r) (hb:ls.getD b.toNat []=y::s) (hlt:c x y<0):BI c ls (k+1) (k:Int):=by
  have:=h.some_ h0
  unfold BI;rw [Srt.best_lt hk this hb hlt]
theorem BI.ge (h:BI c ls k b) (h0:0≤b) {x y:Bytes} {r s:List Bytes} (hk:ls.getD k []=x::r) (hb:ls.getD b.toNat []=y::s) (hlt:¬ c x y<0):BI c ls (k+1) b:=by
  have h1:=h.some_ h0
  unfold BI;rw [Srt.best_ge hk h1 hb hlt];simp only;omega
end
def MergeJ (c:Bytes→Bytes→Int) (ls:List (List Bytes)) (out:List Bytes) (rest:List (List Bytes)):Prop:=out++Srt.merge c rest=Srt.merge c ls∧out.length+rest.flatten.length=ls.flatten.length
section
variable {ls rest:List (List Bytes)} {out:List Bytes} {b:Int}
theorem MergeJ.start:MergeJ c ls [] ls:=⟨rfl,by simp⟩
theorem MergeJ.less {b:Nat} {x:Bytes} {r:List Bytes} (_h:MergeJ c ls out rest) (hx:rest.getD b []=x::r):(rest.set b r).flatten.length<rest.flatten.length:=by
  have:=Srt.set_total hx
  unfold Srt.total at this;omega
theorem MergeJ.step (h:MergeJ c ls out rest) (hb:BI c rest rest.length b) (h0:0≤b) {x:Bytes} {r:List Bytes} (hx:rest.getD b.toNat []=x::r):MergeJ c ls (out++[x]) (rest.set b.toNat r):=by
  refine ⟨?_,?_⟩
  · rw [← h.1,Srt.merge_some (hb.some_ h0) hx];simp
  · have:=Srt.set_total hx
    have:=h.2
    unfold Srt.total at *
    rw [List.length_append,List.length_singleton];omega
theorem MergeJ.done (h:MergeJ c ls out rest) (hb:BI c rest rest.length b) (h0:b<0):out=Srt.merge c ls:=by
  rw [← h.1,Srt.merge_none (hb.none_ h0),List.append_nil]
end
def AtOk (lists:List Rw) (ats:List Int):Prop:=ats.length=lists.length ∧ ∀ k,0≤ats.getD k 0∧ats.getD k 0≤((lists.getD k default).s.length:Int)
def rest (lists:List Rw) (ats:List Int):List (List Bytes):=(List.range lists.length).map fun k=>(lists.getD k default).s.drop (ats.getD k 0).toNat
section
variable {lists:List Rw} {ats:List Int} {k:Nat}
end
end R44
end Go.Proofs.YtggobegaiijhhaaGreatDoor
namespace Go.Proofs.YtggobegaiijhhaaGreatDoor
open Go.GV
namespace R44
open Srt (Cmp)
section
variable {c:Bytes→Bytes→Int} {rest lists:List Rw} {k:Nat} {b:Int}
theorem set_getW {x:Rw} {j i:Nat} : (rest.set j x).getD i default=if j=i∧j<rest.length then x else rest.getD i default:=by
  rw [List.getD_eq_getElem?_getD,List.getElem?_set]
  by_cases h:j=i
  · subst h
    by_cases h2:j<rest.length
    · rw [if_pos rfl,if_pos h2,if_pos ⟨rfl,h2⟩];rfl
    · rw [if_pos rfl,if_neg h2,if_neg (fun h=>h2 h.2),List.getD_eq_getElem?_getD,List.getElem?_eq_none (by omega)]
  · rw [if_neg h,if_neg (fun h2=>h h2.1),← List.getD_eq_getElem?_getD]
theorem ron_set {S:List Nat} {w:World} (h:∀ i:Nat,RO S w (rest.getD i default).sA ((rest.getD i default).s.map vS)) {j:Nat} {x:Rw} (hx:RO S w x.sA (x.s.map vS)) (i:Nat):RO S w ((rest.set j x).getD i default).sA (((rest.set j x).getD i default).s.map vS):=by
  rw [set_getW];split
  · exact hx
  · exact h i
theorem cap_set (h:∀ i:Nat,(rest.getD i default).s.length≤(rest.getD i default).sC) {j:Nat} {A:Option Addr} (i:Nat):((rest.set j (Rw.mk ((rest.getD j default).s.drop 1) A ((rest.getD j default).sC-1))).getD i default).s.length≤((rest.set j (Rw.mk ((rest.getD j default).s.drop 1) A ((rest.getD j default).sC-1))).getD i default).sC:=by
  rw [set_getW];split
  · show ((rest.getD j default).s.drop 1).length≤(rest.getD j default).sC-1
    have:=h j
    rw [List.length_drop];omega
  · exact h i
theorem rw_nil (h:(rest.getD k default).s.length≤0):(rest.map Rw.s).getD k []=[]:=by
  rw [map_at];exact List.length_eq_zero_iff.1 (by omega)
theorem rw_cons (h:0<(rest.getD k default).s.length):(rest.map Rw.s).getD k []=(rest.getD k default).s.getD 0 []::(rest.getD k default).s.drop 1:=by
  rw [map_at];exact drop_cons (d:=[]) (k:=0) h
def Subs (lists rest:List Rw):Prop:=∀ k,∃ j,(rest.getD k default).s=(lists.getD k default).s.drop j
theorem Subs.start:Subs lists lists:=fun _=>⟨0,rfl⟩
theorem Subs.step (h:Subs lists rest) (b:Nat) (A:Option Addr) (C:Nat):Subs lists (rest.set b (Rw.mk ((rest.getD b default).s.drop 1) A C)):=fun k=>by
  rw [set_getW]
  split
  · rename_i h1
    obtain ⟨j,hj⟩:=h k
    refine ⟨j+1,?_⟩
    rw [h1.1]
    show (rest.getD k default).s.drop 1=_
    rw [hj,List.drop_drop]
  · exact h k
theorem Subs.short (h:Subs lists rest) {n:Nat} (hq:∀ i j,((lists.getD i default).s.getD j []).length≤n) (k j:Nat):((rest.getD k default).s.getD j []).length≤n:=by
  obtain ⟨i,hi⟩:=h k
  rw [hi,List.getD_eq_getElem?_getD,List.getElem?_drop,← List.getD_eq_getElem?_getD];exact hq k _
theorem posS (hb:BI c (rest.map Rw.s) k b) (hc:Cmp c) (hk:k≤rest.length) : -1≤b∧b<(k:Int)∧(0≤b→b.toNat<rest.length∧0<(rest.getD b.toNat default).s.length):=by
  have h1:=hb.bd hc
  refine ⟨h1.1,h1.2,fun h0=>⟨by omega,?_⟩⟩
  have h2:=hb.head hc h0
  rw [map_at] at h2
  exact List.length_pos_iff.2 h2
theorem set_drop {j:Nat} {x:Rw} : (rest.set j x).map Rw.s=(rest.map Rw.s).set j x.s:=List.map_set
section
variable {ls:List (List Bytes)} {out:List Bytes}
theorem mj_yield (h:MergeJ c ls out (rest.map Rw.s)) (hb:BI c (rest.map Rw.s) k b) (hk:k=rest.length) (h0:0≤b) (hl:0<(rest.getD b.toNat default).s.length):Srt.merge c ls=out++(rest.getD b.toNat default).s.getD 0 []::Srt.merge c ((rest.map Rw.s).set b.toNat ((rest.getD b.toNat default).s.drop 1)):=by
  have hb2:=hb.some_ h0
  rw [← h.1,Srt.merge_some (by rw [List.length_map,← hk];exact hb2) (rw_cons hl)]
theorem mj_step (hc:Cmp c) (h:MergeJ c ls out (rest.map Rw.s)) (hb:BI c (rest.map Rw.s) k b) (hk:k=rest.length) (h0:0≤b) {A:Option Addr} {C:Nat} : MergeJ c ls (out++[(rest.getD b.toNat default).s.getD 0 []]) ((rest.set b.toNat (Rw.mk ((rest.getD b.toNat default).s.drop 1) A C)).map Rw.s):=by
  have hp:=(posS hb hc (by omega)).2.2 h0
  rw [set_drop]
  exact h.step (by rw [List.length_map,← hk];exact hb) h0 (rw_cons hp.2)
theorem mj_less {A:Option Addr} {C:Nat} (h0:0≤b) (h:0≤b→b.toNat<rest.length∧0<(rest.getD b.toNat default).s.length):((rest.set b.toNat (Rw.mk ((rest.getD b.toNat default).s.drop 1) A C)).map Rw.s).flatten.length<(rest.map Rw.s).flatten.length:=by
  have:=Srt.set_total (rw_cons (h h0).2)
  unfold Srt.total at this
  rw [set_drop]
  show ((rest.map Rw.s).set b.toNat ((rest.getD b.toNat default).s.drop 1)).flatten.length<_
  omega
theorem mj_done (h:MergeJ c ls out (rest.map Rw.s)) (hb:BI c (rest.map Rw.s) k b) (hk:k=rest.length) (h0:b<0):out=Srt.merge c ls:=
  h.done (by rw [List.length_map,← hk];exact hb) h0
end
end
theorem merge_pre {c:Bytes→Bytes→Int} (hc:Cmp c) {ls:List (List Bytes)} {n:Nat} (hn:ls.flatten.length≤n) {pre rest:List Bytes} {a:Bytes} (h:Srt.merge c ls=pre++a::rest):pre.length<n:=by
  have h1:=(Srt.merge_perm hc ls).length_eq
  rw [h] at h1
  simp only [List.length_append,List.length_cons] at h1
  omega
theorem mergeV_yes {l:List SortField} {ls:List (List Bytes)} (h:valid l=true):Srt.merge (cmpL l) ls=mergeV l ls:=by unfold mergeV;rw [if_pos h]
end R44
end Go.Proofs.YtggobegaiijhhaaGreatDoor
namespace Go.Proofs.YtggobegaiijhhaaGreatDoor
open Go.GV
namespace R44
open Srt (Cmp)
theorem ix_yes {l:List Bytes} {k:Nat} (hk:k<l.length) (h:1000<(l.getD k []).length):decide (0≤((k:Nat):Int))=long l:=by
  rw [← long_hit hk h];exact decide_eq_true (by omega)
theorem ix_no {l:List Bytes} (h:∀ i,i<l.length→(l.getD i []).length≤1000):decide (0≤(-1:Int))=long l:=by rw [← long_none h];rfl
def inR (f:Bytes→Bytes × Bool) (rs:List Bytes):List Bytes × Int × Int:=match inputs f rs with
  | some out=>(out,(rs.length:Int)-(out.length:Int),0)
  | none=>([],0,8)
theorem inR_end {f:Bytes→Bytes × Bool} {rs out:List Bytes} (h:inputs f rs=some out):(out,(rs.length:Int)-(out.length:Int),0)=inR f rs:=by unfold inR;rw [h]
end R44
end Go.Proofs.YtggobegaiijhhaaGreatDoor
namespace Go.Proofs.YtggobegaiijhhaaGreatDoor
open Go.GV
structure Part where
  s:List Rw
  sA:Option Addr
  sC:Nat
deriving Inhabited
def Part.enc (a:Part):List Value:=[vL a.sA a.s.length a.sC]
namespace R44
open Srt (Cmp)
def part (n:Nat) (rws:List Rw) (A:Option Addr) (lo:Nat):Part:=⟨(rws.drop lo).take (min n (rws.length-lo)),subA A (lo+min n (rws.length-lo)) lo 1,min n (rws.length-lo)⟩
theorem part_enc {n:Nat} {rws:List Rw} {A:Option Addr} {lo:Nat} : [vL (subA A (lo+min n (rws.length-lo)) lo 1) (min n (rws.length-lo)) (min n (rws.length-lo))]=Part.enc (part n rws A lo):=by
  show _=[vL _ (((rws.drop lo).take (min n (rws.length-lo))).length) _]
  rw [List.length_take,List.length_drop,Nat.min_eq_left (Nat.min_le_right _ _)];rfl
def partsN (n:Nat) (rws:List Rw) (A:Option Addr):Nat→Nat→List Part
  | 0,_=>[]
  | f+1,lo=>if lo<rws.length then part n rws A lo::partsN n rws A f (lo+n) else []
def parts (n:Nat) (rws:List Rw) (A:Option Addr):List Part:=partsN n rws A rws.length 0
section
variable {n:Nat} {rws:List Rw} {A:Option Addr} {lo:Nat} {pre:List Part}
theorem partsN_any (hn:1≤n):∀ (f f' lo:Nat),rws.length-lo≤f→rws.length-lo≤f'→partsN n rws A f lo=partsN n rws A f' lo
  | 0,0,_,_,_=>rfl
  | 0,f'+1,lo,h,_=>by rw [partsN,partsN,if_neg (by omega)]
  | f+1,0,lo,_,h=>by rw [partsN,partsN,if_neg (by omega)]
  | f+1,f'+1,lo,h,h'=>by
    rw [partsN,partsN]
    split
    · rw [partsN_any hn f f' (lo+n) (by omega) (by omega)]
    · rfl
def PartJ (n:Nat) (rws:List Rw) (A:Option Addr) (pre:List Part) (lo:Nat):Prop:=pre++partsN n rws A rws.length lo=parts n rws A
theorem PartJ.start:PartJ n rws A [] 0:=rfl
theorem partsN_cons (hn:1≤n) (h:lo<rws.length):partsN n rws A rws.length lo=part n rws A lo::partsN n rws A rws.length (lo+n):=by
  obtain ⟨f,hf⟩:∃ f,rws.length=f+1:=⟨rws.length-1,by omega⟩
  conv=>lhs;rw [hf]
  rw [partsN,if_pos h,partsN_any hn f rws.length (lo+n) (by omega) (by omega)]
theorem PartJ.yield (h:PartJ n rws A pre lo) (hn:1≤n) (hl:lo<rws.length):parts n rws A=pre++part n rws A lo::partsN n rws A rws.length (lo+n):=by
  rw [← partsN_cons hn hl];exact h.symm
theorem PartJ.step (h:PartJ n rws A pre lo) (hn:1≤n) (hl:lo<rws.length):PartJ n rws A (pre++[part n rws A lo]) (lo+n):=by
  unfold PartJ;rw [h.yield hn hl];simp
theorem PartJ.done (h:PartJ n rws A pre lo) (hl:¬ lo<rws.length):pre=parts n rws A:=by
  rw [← h]
  have:partsN n rws A rws.length lo=[]:=by
    cases rws.length with
    | zero=>rfl
    | succ f=>rw [partsN,if_neg (by omega)]
  rw [this,List.append_nil]
theorem partsN_mem:∀ (f lo:Nat) {p:Part},p∈partsN n rws A f lo → ∃ k,k<rws.length∧p=part n rws A k
  | 0,_,_,h=>by cases h
  | f+1,lo,p,h=>by
    rw [partsN] at h
    split at h
    · rename_i hl
      rcases List.mem_cons.1 h with rfl | h
      · exact ⟨lo,hl,rfl⟩
      · exact partsN_mem f _ h
    · cases h
theorem part_of {p:Part} {rest:List Part} (h:parts n rws A=pre++p::rest):∃ k,k<rws.length∧p=part n rws A k:=partsN_mem rws.length 0 (by show p∈parts n rws A;rw [h];simp)
theorem partsN_len:∀ (f lo:Nat),(partsN n rws A f lo).length≤f
  | 0,_=>Nat.le_refl _
  | f+1,lo=>by
    rw [partsN];split
    · rw [List.length_cons];have:=partsN_len f (lo+n);omega
    · exact Nat.zero_le _
theorem part_pre {p:Part} {rest:List Part} (h:parts n rws A=pre++p::rest):pre.length<rws.length:=by
  have h1:(parts n rws A).length≤rws.length:=partsN_len _ _
  rw [h] at h1;simp at h1;omega
theorem sub_at {k m i:Nat} : ((rws.drop k).take m).getD i default=if i<m then rws.getD (k+i) default else default:=by
  rw [List.getD_eq_getElem?_getD,List.getElem?_take]
  split
  · rw [List.getElem?_drop,← List.getD_eq_getElem?_getD]
  · rfl
variable {rest:List Part} {ps:List Rw} {pA:Option Addr} {pC:Nat}
theorem part_ro {S:List Nat} {w:World} (h:parts n rws A=pre++⟨ps,pA,pC⟩::rest) (hr:RO S w A (rws.flatMap Rw.enc)):RO S w pA (ps.flatMap Rw.enc):=by
  obtain ⟨k,hk,e⟩:=part_of h
  cases e
  have:=hr.sub (k+min n (rws.length-k)) k (min n (rws.length-k)) 1 (by omega)
  rwa [← drop_flat Rw.enc 1 Rw.enc_len,← take_flat Rw.enc 1 Rw.enc_len] at this
theorem part_ron {S:List Nat} {w:World} (h:parts n rws A=pre++⟨ps,pA,pC⟩::rest) (hr:∀ i:Nat,RO S w (rws.getD i default).sA ((rws.getD i default).s.map vS)) (i:Nat):RO S w (ps.getD i default).sA ((ps.getD i default).s.map vS):=by
  obtain ⟨k,hk,e⟩:=part_of h
  cases e
  rw [sub_at];split
  · exact hr _
  · exact RO.nil
theorem part_len (h:parts n rws A=pre++⟨ps,pA,pC⟩::rest) {m:Nat} (hm:rws.length≤m):ps.length≤m:=by
  obtain ⟨k,hk,e⟩:=part_of h
  cases e
  rw [List.length_take,List.length_drop];omega
theorem part_short (h:parts n rws A=pre++⟨ps,pA,pC⟩::rest) {m:Nat} (hm:∀ i j,((rws.getD i default).s.getD j []).length≤m) (i j:Nat):((ps.getD i default).s.getD j []).length≤m:=by
  obtain ⟨k,hk,e⟩:=part_of h
  cases e
  rw [sub_at];split
  · exact hm _ _
  · exact Nat.zero_le _
theorem part_cap (h:parts n rws A=pre++⟨ps,pA,pC⟩::rest) (hm:∀ i:Nat,(rws.getD i default).s.length≤(rws.getD i default).sC) (i:Nat):(ps.getD i default).s.length≤(ps.getD i default).sC:=by
  obtain ⟨k,hk,e⟩:=part_of h
  cases e
  rw [sub_at];split
  · exact hm _
  · exact Nat.zero_le _
theorem flat_sub {α:Type} (X:List (List α)) (k m:Nat):((X.drop k).take m).flatten.length≤X.flatten.length:=by
  have h1:=congrArg (fun l=>(List.flatten l).length) (List.take_append_drop k X)
  have h2:=congrArg (fun l=>(List.flatten l).length) (List.take_append_drop m (X.drop k))
  simp only [List.flatten_append,List.length_append] at h1 h2
  omega
theorem part_flat (h:parts n rws A=pre++⟨ps,pA,pC⟩::rest) {m:Nat} (hm:(rws.map Rw.s).flatten.length≤m):(ps.map Rw.s).flatten.length≤m:=by
  obtain ⟨k,hk,e⟩:=part_of h
  cases e
  refine Nat.le_trans ?_ hm
  rw [List.map_take,List.map_drop]
  exact flat_sub _ _ _
theorem parts_chunks (hn:1≤n):∀ (f lo:Nat),rws.length-lo≤f→(partsN n rws A f lo).map (fun p=>p.s.map Rw.s)=Srt.chunks n ((rws.drop lo).map Rw.s)
  | 0,lo,h=>by rw [List.drop_of_length_le (by omega)];rfl
  | f+1,lo,hf=>by
    rw [partsN]
    by_cases h:lo<rws.length
    · rw [if_pos h,Srt.chunks_cons (by omega) (by rw [ne_eq,List.map_eq_nil_iff,List.drop_eq_nil_iff];omega),List.map_cons,parts_chunks hn f (lo+n) (by omega),← List.map_take,← List.map_drop,List.drop_drop]
      congr 1
      show ((rws.drop lo).take (min n (rws.length-lo))).map Rw.s=_
      by_cases h2:n≤rws.length-lo
      · rw [Nat.min_eq_left h2]
      · rw [Nat.min_eq_right (by omega),List.take_of_length_le (by rw [List.length_drop];omega),List.take_of_length_le (by rw [List.length_drop];omega)]
    · rw [if_neg h,List.drop_of_length_le (by omega)];rfl
theorem parts_pass {l:List SortField} (hv:valid l=true) (hn:1≤n):(parts n rws A).map (fun p=>mergeV l (p.s.map Rw.s))=Srt.pass (cmpL l) n (rws.map Rw.s):=by
  have h:=parts_chunks (rws:=rws) (A:=A) hn rws.length 0 (by omega)
  unfold Srt.pass
  rw [show rws.map Rw.s=(rws.drop 0).map Rw.s from rfl,← h,List.map_map]
  refine List.map_congr_left fun p _=>?_
  exact (mergeV_yes hv).symm
end
structure PassJ (c:Bytes→Bytes→Int) (f:Nat) (R0 X:List (List Bytes)) (np:Nat):Prop where
  fin:(Srt.rounds c f X).1=(Srt.rounds c f R0).1
  cnt:np+(Srt.rounds c f X).2=(Srt.rounds c f R0).2
  perm:X.flatten.Perm R0.flatten
  few:X.length≤R0.length
section
variable {c:Bytes→Bytes→Int} {f np:Nat} {R0 X:List (List Bytes)}
theorem PassJ.start:PassJ c f R0 R0 0:=⟨rfl,Nat.zero_add _,.refl _,Nat.le_refl _⟩
theorem PassJ.step (hc:Cmp c) (hf:2≤f) (h:PassJ c f R0 X np) (hl:1<X.length):PassJ c f R0 (Srt.pass c f X) (np+1):=by
  have hr:=Srt.rounds_more (c:=c) hf hl
  have h1:=h.fin
  have h2:=h.cnt
  rw [hr] at h1 h2
  refine ⟨h1,?_,(Srt.pass_perm hc (by omega) X).trans h.perm,?_⟩
  · simp only at h2;omega
  · have:=Srt.pass_less (c:=c) hf hl;have:=h.few;omega
theorem PassJ.done (h:PassJ c f R0 X np) (hl:¬ 1<X.length):(Srt.rounds c f R0).1=X∧(Srt.rounds c f R0).2=np:=by
  have hr:=Srt.rounds_done (c:=c) (n:=f) (ls:=X) (by omega)
  have h1:=h.fin
  have h2:=h.cnt
  rw [hr] at h1 h2
  exact ⟨h1.symm,by simp only at h2;omega⟩
end
theorem passes_le (f:Nat):∀ m n:Nat,Srt.passes f m n≤m
  | 0,_=>Nat.le_refl _
  | m+1,n=>by
    rw [Srt.passes];split
    · exact Nat.zero_le _
    · have:=passes_le f m ((n+f-1) / f);omega
theorem pass_bounds {l:List SortField} {m:Nat} (hm:0<m) {inn:List Bytes} {rws:List Rw} {f np:Nat} (hf:2≤f) (h:PassJ (cmpL l) f (Srt.runs (cmpL l) m inn) (rws.map Rw.s) np) {N n:Nat} (hi:inn.length≤N) (hs:∀ i,(inn.getD i []).length≤n) :
    rws.length≤N∧(rws.map Rw.s).flatten.length≤N∧(∀ i j,((rws.getD i default).s.getD j []).length≤n)∧np≤N:=by
  have hp:=h.perm.trans (Srt.runs_perm (cmpL_ok l) hm inn)
  have h1:=h.few
  have h2:=(runs_small (cmpL_ok l) hm inn).1
  rw [List.length_map] at h1
  have h3:=h.cnt
  rw [Srt.rounds_count hf,Srt.rounds_count hf] at h3
  have h4:=passes_le f (Srt.runs (cmpL l) m inn).length (Srt.runs (cmpL l) m inn).length
  refine ⟨by omega,by rw [hp.length_eq];exact hi,fun i j=>?_,by omega⟩
  by_cases hi:i<rws.length
  · by_cases hj:j<(rws.getD i default).s.length
    · have hm1:(rws.getD i default).s.getD j []∈(rws.map Rw.s).flatten:=List.mem_flatten.2 ⟨(rws.getD i default).s,List.mem_map_of_mem (getD_mem hi),getD_mem hj⟩
      obtain ⟨k,hk,e⟩:=getD_ex (d:=[]) (hp.mem_iff.1 hm1)
      rw [← e];exact hs k
    · rw [List.getD_eq_getElem?_getD,List.getElem?_eq_none (by omega)];exact Nat.zero_le _
  · rw [getD_out (by omega)];exact Nat.zero_le _
theorem map_lens {next:List Rw} {pre:List Part} {f:Part→List Bytes} (h:next.map Rw.s=pre.map f):next.length=pre.length:=by
  have:=congrArg List.length h
  rwa [List.length_map,List.length_map] at this
theorem PassJ.start_of {c:Bytes→Bytes→Int} {f:Nat} {R0 X:List (List Bytes)} (h:X=R0):PassJ c f R0 X 0:=by subst h;exact .start
theorem pass_next {l:List SortField} {kf np:Nat} {R0:List (List Bytes)} {runs next:List Rw} {A:Option Addr} (hc:Cmp (cmpL l)) (hf:2≤kf) (h:PassJ (cmpL l) kf R0 (runs.map Rw.s) np) (hl:1<runs.length) (hv:valid l=true) (hn:next.map Rw.s=(parts kf runs A).map (fun p=>mergeV l (p.s.map Rw.s))):PassJ (cmpL l) kf R0 (next.map Rw.s) (np+1):=by
  rw [hn,parts_pass hv (by omega)]
  exact h.step hc hf (by rw [List.length_map];exact hl)
theorem pass_dec {l:List SortField} {kf:Nat} {runs next:List Rw} {A:Option Addr} (hf:2≤kf) (hl:1<runs.length) (hv:valid l=true) (hn:next.map Rw.s=(parts kf runs A).map (fun p=>mergeV l (p.s.map Rw.s))):next.length<runs.length:=by
  have h1:=map_lens (hn.trans rfl)
  have h2:=congrArg List.length hn
  rw [parts_pass hv (by omega),List.length_map] at h2
  have:=Srt.pass_less (c:=cmpL l) hf (ls:=runs.map Rw.s) (by rw [List.length_map];exact hl)
  rw [List.length_map] at this;omega
abbrev g1 (l:List SortField) (m fan:Int):Bool:=((((!(valid l))||decide (m<1))||decide ((1024:Int)<m))||decide (fan<2))||decide ((16:Int)<fan)
abbrev g2 (rs:List Bytes):Bool:=decide ((1024:Int)<((rs.length:Nat):Int))||long rs
def sortV (l:List SortField) (m fan:Int) (fi:Bytes→Bytes × Bool) (fs:Bytes→Bytes→Bytes × Bool) (rs:List Bytes):List Bytes × SortWork × Int:=
  if g1 l m fan=true then ([],⟨0,0,0⟩,1)
  else if g2 rs=true then ([],⟨0,0,0⟩,8)
  else if (inR fi rs).2.2≠0 then ([],⟨0,0,0⟩,(inR fi rs).2.2)
  else if (sums (cmpL l) fs [] (Srt.srt (cmpL l) (inR fi rs).1)).2≠0 then ([],⟨0,0,0⟩,(sums (cmpL l) fs [] (Srt.srt (cmpL l) (inR fi rs).1)).2)
  else ((sums (cmpL l) fs [] (Srt.srt (cmpL l) (inR fi rs).1)).1,⟨((Srt.runs (cmpL l) m.toNat (inR fi rs).1).length:Int),((Srt.rounds (cmpL l) fan.toNat (Srt.runs (cmpL l) m.toNat (inR fi rs).1)).2:Int),(rs.length:Int)-((sums (cmpL l) fs [] (Srt.srt (cmpL l) (inR fi rs).1)).1.length:Int)⟩,0)
section
variable {l:List SortField} {m fan:Int} {fi:Bytes→Bytes × Bool} {fs:Bytes→Bytes→Bytes × Bool} {rs:List Bytes}
theorem sv_1 (h:g1 l m fan=true):([],SortWork.mk 0 0 0,(1:Int))=sortV l m fan fi fs rs:=by unfold sortV;rw [if_pos h]
theorem sv_2 (h:g1 l m fan=false) (h2:g2 rs=true):([],SortWork.mk 0 0 0,(8:Int))=sortV l m fan fi fs rs:=by unfold sortV;rw [if_neg (by rw [h];decide),if_pos h2]
theorem inR_drop {inn:List Bytes} {n e:Int} (h3:(inn,n,e)=inR fi rs) (he:¬ e≠0):n=(rs.length:Int)-(inn.length:Int):=by
  unfold inR at h3
  cases hi:inputs fi rs with
  | none=>rw [hi] at h3;cases h3;exact absurd (by decide) he
  | some out=>rw [hi] at h3;cases h3;rfl
theorem sv_5 {inn:List Bytes} {n e e2:Int} {out sorted:List Bytes} {n1 n2:Nat} {d:Int} (h:g1 l m fan=false) (h2:g2 rs=false) (h3:(inn,n,e)=inR fi rs) (he:¬ e≠0) (hs:sorted=Srt.srt (cmpL l) inn) (h4:(out,e2)=sums (cmpL l) fs [] sorted) (he2:¬ e2≠0)
    (hn1:n1=(Srt.runs (cmpL l) m.toNat inn).length) (hn2:(Srt.rounds (cmpL l) fan.toNat (Srt.runs (cmpL l) m.toNat inn)).2=n2) (hd:d=n+((sorted.length:Int)-(out.length:Int))):(out,SortWork.mk (n1:Int) (n2:Int) d,(0:Int))=sortV l m fan fi fs rs:=by
  have hlen:sorted.length=inn.length:=by rw [hs,Srt.srt_len]
  have hn:=inR_drop h3 he
  subst hs
  unfold sortV;rw [if_neg (by rw [h];decide),if_neg (by rw [h2];decide),← h3,if_neg he,← h4,if_neg he2,hn1,hn2]
  have:d=(rs.length:Int)-(out.length:Int):=by omega
  rw [this]
end
section
variable {fi:Bytes→Bytes × Bool} {c:Bytes→Bytes→Int} {fs:Bytes→Bytes→Bytes × Bool} {rs inn out:List Bytes} {n e:Int}
end
def idF (s:Bytes):Bytes × Bool:=(s,true)
def noF (_ _:Bytes):Bytes × Bool:=([],false)
theorem inputs_id:∀ {l:List Bytes},(∀ x∈l,x.length≤1000)→inputs idF l=some l
  | [],_=>rfl
  | s::r,h=>by
    have hs:=h s List.mem_cons_self
    show (if (true:Bool)=true then (if 1000<s.length then none else (inputs idF r).map fun l=>s::l) else inputs idF r)=_
    rw [if_pos rfl,if_neg (by omega),inputs_id fun x hx=>h x (List.mem_cons_of_mem _ hx)];rfl
theorem inR_id {rs:List Bytes} (h:g2 rs=false):(rs,(0:Int),(0:Int))=inR idF rs:=by
  unfold g2 at h
  have h2:=(Bool.or_eq_false_iff.1 h).2
  have:=inR_end (f:=idF) (rs:=rs) (inputs_id fun x hx=>by
    obtain ⟨i,hi,e⟩:=getD_ex (d:=[]) hx
    rw [← e];exact long_facts h2 i)
  rwa [Int.sub_self] at this
theorem sums_no {c:Bytes→Bytes→Int} {l:List Bytes} : (l,(0:Int))=sums c noF [] l:=by
  rw [sums_nil (fun _ _=>rfl)];rfl
theorem one_row {l:List SortField} {m fan:Nat} {inn:List Bytes} {rws:List Rw} {np:Nat} (hm:0<m) (hf:2≤fan) (h:PassJ (cmpL l) fan (Srt.runs (cmpL l) m inn) (rws.map Rw.s) np) (hl:¬ 1<rws.length):(rws.getD 0 default).s=Srt.srt (cmpL l) inn∧(Srt.rounds (cmpL l) fan (Srt.runs (cmpL l) m inn)).2=np:=by
  have h1:=h.done (by rw [List.length_map];exact hl)
  have h2:=Srt.sorts (cmpL_ok l) hm hf inn
  rw [h1.1,map_at] at h2
  exact ⟨h2.2,h1.2⟩
theorem one_none {l:List SortField} {rws:List Rw} {inn:List Bytes} (h0:¬ 0<rws.length) (h:(rws.getD 0 default).s=Srt.srt (cmpL l) inn):[]=Srt.srt (cmpL l) inn:=by
  rw [← h,getD_out (by omega)];rfl
theorem runsV_yes {l:List SortField} {m:Int} {rs:List Bytes} {X:List (List Bytes)} (hm:1≤m) (hv:valid l=true) (h:X=runsV l m rs):X=Srt.runs (cmpL l) m.toNat rs:=by rw [h];unfold runsV;rw [if_pos ⟨hm,hv⟩]
theorem g1_facts {l:List SortField} {m fan:Int} (h:g1 l m fan=false):valid l=true∧1≤m∧m≤1024∧2≤fan∧fan≤16:=by
  unfold g1 at h
  simp only [Bool.or_eq_false_iff,decide_eq_false_iff_not,Bool.not_eq_false'] at h
  refine ⟨h.1.1.1.1,by omega,by omega,by omega,by omega⟩
end R44
end Go.Proofs.YtggobegaiijhhaaGreatDoor
namespace Go.Proofs.YtggobegaiijhhaaGreatDoor
open Go.GV
namespace R44
open Srt (Cmp)
section
variable {c:Bytes→Bytes→Int} {f:Bytes→Bytes→Bytes × Bool} {out l:List Bytes} {k:Nat} {R:List Bytes × Int}
end
section
variable {l:List SortField} {m:Int} {kf:Nat} {fi:Bytes→Bytes × Bool} {fs:Bytes→Bytes→Bytes × Bool} {rs inn out:List Bytes}
end
end R44
end Go.Proofs.YtggobegaiijhhaaGreatDoor
