/- Pl44r, Pl45o, GvSb, Eq45 in one text. -/
import Derived.Test.YtggobegaiijhhaaGreatDoorUtilitySorts30
import Derived.Test.YtggobegaiijhhaaGreatDoorUtilitySorts25
import Derived.Test.YtggobegaiijhhaaGreatDoorUtilitySorts6
import Derived.Test.YtggobegaiijhhaaGreatDoorUtilitySorts3
import Derived.Test.YtggobegaiijhhaaGreatDoorUtilitySorts5
set_option linter.unusedVariables false
set_option linter.unusedSimpArgs false
namespace Go.Proofs.YtggobegaiijhhaaGreatDoor
open Go.GV
namespace Srt
variable {α:Type} {c:α→α→Int}
theorem merge_srt (h:Cmp c) (ls:List (List α)):merge c (ls.map (srt c))=srt c ls.flatten:=by
  have key:∀ (ls:List (List α)) (k:Nat),∃ ts:List (List (α × Nat)),ts.map (List.map Prod.fst)=ls.map (srt c)∧ts.flatten.Perm (ls.flatten.zipIdx k)∧Good c ts:=by
    intro ls
    induction ls with
    | nil=>exact fun k=>⟨[],rfl,.refl _,⟨fun _ hx=>(by cases hx),.nil⟩⟩
    | cons l ls ih =>
      intro k
      obtain ⟨ts,h1,h2,h3⟩:=ih (k+l.length)
      have hzl:(srt (tc c) (l.zipIdx k)).Pairwise (lt c):=foldl_lt h (l.zipIdx k) [] (zip_tags l k) (fun _ _ _ hy=>(by cases hy)) .nil
      refine ⟨srt (tc c) (l.zipIdx k)::ts,?_,?_,?_⟩
      · rw [List.map_cons,List.map_cons,h1]
        congr 1
        have:=srt_map (c:=c) Prod.fst (l.zipIdx k)
        rw [List.zipIdx_map_fst] at this
        exact this.symm
      · rw [List.flatten_cons,List.flatten_cons,List.zipIdx_append]
        exact (srt_perm _).append h2
      · refine (Good.append (l:=[srt (tc c) (l.zipIdx k)])).2 ⟨⟨fun x hx=>by rw [List.mem_singleton.1 hx];exact hzl,List.pairwise_singleton _ _⟩,h3,fun x hx y hy a ha b hb _=>?_⟩
        rw [List.mem_singleton.1 hx] at ha
        have hb':b∈ls.flatten.zipIdx (k+l.length):=h2.mem_iff.1 (List.mem_flatten.2 ⟨y,hy,hb⟩)
        have q1:=List.mem_zipIdx (x:=a.1) (i:=a.2) (srt_mem.1 ha)
        have q2:=List.mem_zipIdx (x:=b.1) (i:=b.2) hb'
        omega
  obtain ⟨ts,h1,h2,h3⟩:=key ls 0
  have:=canon h (merge_lt h h3) (l:=ls.flatten) ((merge_perm h.tagged ts).trans h2)
  rw [← this,← h1]
  exact merge_map Prod.fst ts
end Srt
open Srt (Cmp)
namespace R44
theorem sv_plain {l:List SortField} {m fan a b d e:Int} {rs out:List Bytes} (hv:valid l=true) (hm:1≤m) (hm2:m≤1024) (hf:2≤fan) (hf2:fan≤16) (hl:rs.length≤1024) (hs:∀ i,(rs.getD i []).length≤1000)
    (h:(out,SortWork.mk a b d,e)=sortV l m fan idF noF rs):out=Srt.srt (cmpL l) rs∧e=0∧a=((Srt.runs (cmpL l) m.toNat rs).length:Int)∧b=((Srt.rounds (cmpL l) fan.toNat (Srt.runs (cmpL l) m.toNat rs)).2:Int)∧d=0:=by
  have h1:g1 l m fan=false:=by
    unfold g1
    simp only [hv,Bool.not_true,Bool.or_eq_false_iff,decide_eq_false_iff_not,true_and]
    omega
  have h2:g2 rs=false:=by
    unfold g2
    rw [Bool.or_eq_false_iff]
    exact ⟨decide_eq_false (by omega),(long_none fun i _=>hs i).symm⟩
  unfold sortV at h
  rw [if_neg (by rw [h1];decide),if_neg (by rw [h2];decide),← inR_id h2,if_neg (by simp),← sums_no,if_neg (by simp)] at h
  simp only [Srt.srt_len,Int.sub_self] at h
  cases h
  exact ⟨rfl,rfl,rfl,rfl,rfl⟩
theorem few_plain {rs:List Bytes} {n:Int} (h:few rs n=true) (hn:n≤1024):rs.length≤1024 ∧ ∀ i,(rs.getD i []).length≤1000:=by
  have:=few_facts h
  exact ⟨by omega,fun i=>by have:=this.2 i;omega⟩
end R44
end Go.Proofs.YtggobegaiijhhaaGreatDoor
namespace Go.GV
end Go.GV
namespace Go.Proofs.YtggobegaiijhhaaGreatDoor
open Go.GV
namespace R44
structure MgJ (l:List SortField) (sorted:List Rw) (all:List Bytes) (k:Nat):Prop where
  eq:all=(sorted.map Rw.s).flatten
  ord:∀ x∈sorted.map Rw.s,Srt.Ordered (cmpL l) x
  cap:∀ i,(sorted.getD i default).s.length≤(sorted.getD i default).sC
  short:∀ i j,((sorted.getD i default).s.getD j []).length≤60
  len:sorted.length=k
  al:all.length≤10*k
  shortA:∀ i,(all.getD i []).length≤60
theorem MgJ.start {l:List SortField} : MgJ l [] [] 0:=⟨rfl,fun _ h=>(by cases h),fun _=>Nat.le_refl _,fun _ _=>Nat.zero_le _,rfl,Nat.le_refl _,fun _=>Nat.zero_le _⟩
theorem getD_app {α:Type} {l m:List α} {d:α} {p:α→Prop} (h:∀ i,p (l.getD i d)) (h2:∀ i,p (m.getD i d)) (i:Nat):p ((l++m).getD i d):=by
  by_cases hi:i<l.length
  · have:=h i
    rwa [List.getD_eq_getElem?_getD,← List.getElem?_append_left (l₂:=m) hi,← List.getD_eq_getElem?_getD] at this
  · have:=h2 (i-l.length)
    rwa [List.getD_eq_getElem?_getD,← List.getElem?_append_right (l₁:=l) (by omega),← List.getD_eq_getElem?_getD] at this
theorem getD_one {α:Type} {d x:α} {p:α→Prop} (h:p x) (h2:p d):∀ i:Nat,p ([x].getD i d)
  | 0=>h
  | _+1=>h2
theorem few_short {rs:List Bytes} {n:Int} (h:few rs n=true) {out:List Bytes} (hp:out.Perm rs) (i:Nat):(out.getD i []).length≤60:=by
  by_cases hi:i<out.length
  · obtain ⟨j,hj,e⟩:=getD_ex (d:=[]) (hp.mem_iff.1 (getD_mem (d:=[]) hi))
    rw [← e];exact (few_facts h).2 j
  · rw [List.getD_eq_getElem?_getD,List.getElem?_eq_none (by omega)];exact Nat.zero_le _
theorem MgJ.step {l:List SortField} {sorted:List Rw} {all rs out:List Bytes} {k C:Nat} {A:Option Addr} {a b d e:Int} (h:MgJ l sorted all k) (hf:few rs 10=true) (hv:valid l=true) (hs:(out,SortWork.mk a b d,e)=sortV l 5 2 idF noF rs) (hc:out.length≤C):MgJ l (sorted++[Rw.mk out A C]) (all++out) (k+1):=by
  have hp:=few_plain hf (by decide)
  have hq:=(sv_plain hv (by decide) (by decide) (by decide) (by decide) hp.1 hp.2 hs).1
  have hpm:out.Perm rs:=by rw [hq];exact Srt.srt_perm rs
  have hl:=(few_facts hf).1
  have hl2:=hpm.length_eq
  have hal:=h.al
  refine ⟨?_,?_,getD_app (p:=fun r:Rw=>r.s.length≤r.sC) h.cap (getD_one (p:=fun r:Rw=>r.s.length≤r.sC) hc (Nat.le_refl _)),getD_app (p:=fun r:Rw=>∀ j,(r.s.getD j []).length≤60) h.short (getD_one (p:=fun r:Rw=>∀ j,(r.s.getD j []).length≤60) (fun j=>few_short hf hpm j) (fun _=>Nat.zero_le _)),?_,?_,?_⟩
  · rw [List.map_append,List.flatten_append,← h.eq];simp
  · intro x hx
    rw [List.map_append,List.mem_append] at hx
    rcases hx with hx | hx
    · exact h.ord x hx
    · rw [List.map_cons,List.map_nil,List.mem_singleton] at hx
      have hx2:x=out:=hx
      rw [hx2,hq];exact Srt.srt_ordered (cmpL_ok l) rs
  · rw [List.length_append,h.len];rfl
  · rw [List.length_append];omega
  · exact getD_app (p:=fun r:Bytes=>r.length≤60) h.shortA (fun i=>few_short hf hpm i)
theorem MgJ.bad {l:List SortField} {rs out:List Bytes} {a b d e:Int} (hf:few rs 10=true) (hv:valid l=true) (hs:(out,SortWork.mk a b d,e)=sortV l 5 2 idF noF rs) (he:e≠0):False:=by
  have hp:=few_plain hf (by decide)
  exact he (sv_plain hv (by decide) (by decide) (by decide) (by decide) hp.1 hp.2 hs).2.1
theorem MgJ.law {l:List SortField} {sorted:List Rw} {all out:List Bytes} {k:Nat} {a b d e:Int} (h:MgJ l sorted all k) (hk:k≤6) (hv:valid l=true) (hs:(out,SortWork.mk a b d,e)=sortV l 5 2 idF noF all):((decide (e=0))&&(decide (mergeV l (sorted.map Rw.s)=out)))=true:=by
  have hal:=h.al
  have hq:=sv_plain hv (by decide) (by decide) (by decide) (by decide) (by omega) (fun i=>by have:=h.shortA i;omega) hs
  have e2:mergeV l (sorted.map Rw.s)=out:=by
    unfold mergeV
    rw [if_pos hv,Srt.merge_sorts (cmpL_ok l) h.ord,hq.1,← h.eq]
  rw [e2,hq.2.1];simp
end R44
end Go.Proofs.YtggobegaiijhhaaGreatDoor
namespace Go.Proofs.YtggobegaiijhhaaGreatDoor
open Go.GV
namespace R45
theorem wordsGo_sp:∀ (l cur:Bytes),R44.wordsGo cur (l++[32])=R44.wordsGo cur l
  | [],cur=>by
    show (if (32:UInt8)=32 then (if cur=[] then R44.wordsGo [] [] else cur::R44.wordsGo [] []) else R44.wordsGo (cur++[32]) [])=if cur=[] then [] else [cur]
    rw [if_pos rfl]
    by_cases h:cur=[]
    · rw [if_pos h,if_pos h];rfl
    · rw [if_neg h,if_neg h];rfl
  | c::l,cur=>by
    rw [List.cons_append,R44.wordsGo,R44.wordsGo,wordsGo_sp l [],wordsGo_sp l (cur++[c])]
theorem words_snoc (s:Bytes):R44.words (s++[32])=R44.words s:=wordsGo_sp s []
theorem splitGo_sp:∀ (l cur:Bytes),(R44.splitGo 44 cur (l++[32])).map R44.words=(R44.splitGo 44 cur l).map R44.words
  | [],cur=>by
    show (if (32:UInt8)=44 then cur::R44.splitGo 44 [] [] else [cur++[32]]).map R44.words=[cur].map R44.words
    rw [if_neg (by decide)]
    simp only [List.map_cons,List.map_nil,words_snoc]
  | c::l,cur=>by
    rw [List.cons_append,R44.splitGo,R44.splitGo]
    split
    · rw [List.map_cons,List.map_cons,splitGo_sp l []]
    · exact splitGo_sp l _
theorem fieldsW_of:∀ {ps qs:List Bytes},ps.map R44.words=qs.map R44.words→R44.fieldsW ps=R44.fieldsW qs
  | [],[],_=>rfl
  | [],_::_,h=>by cases h
  | _::_,[],h=>by cases h
  | p::ps,q::qs,h=>by
    rw [List.map_cons,List.map_cons] at h
    injection h with h1 h2
    rw [R44.fieldsW,R44.fieldsW,h1,fieldsW_of h2]
theorem parse_sp (s:Bytes):R44.parseV (s++[32])=R44.parseV s:=by
  have h:R44.fieldsW (R44.splitC 44 (s++[32]))=R44.fieldsW (R44.splitC 44 s):=fieldsW_of (splitGo_sp s [])
  unfold R44.parseV
  rw [words_snoc,h]
theorem cutB_app {b:UInt8} : ∀ {x:Bytes} (r:Bytes),b∉x→cutB b (x++b::r)=some (x,r)
  | [],r,_=>by rw [List.nil_append,cutB,if_pos rfl]
  | c::x,r,h=>by
    rw [List.mem_cons,not_or] at h
    rw [List.cons_append,cutB,if_neg (fun e=>h.1 e.symm),cutB_app r h.2];rfl
theorem cutB_none {b:UInt8} : ∀ {x:Bytes},b∉x→cutB b x=none
  | [],_=>rfl
  | c::x,h=>by
    rw [List.mem_cons,not_or] at h
    rw [cutB,if_neg (fun e=>h.1 e.symm),cutB_none h.2];rfl
def planS (fields:Bytes) (m f:Int):Bytes:=(((fields++[32,47,32])++Lib.decDigits m.toNat)++[32])++Lib.decDigits f.toNat
theorem nums:((List.range 41).all fun n=>decide (numV (Lib.decDigits n) 1024=some (n:Int)))=true:=by kernel_rfl
theorem nums2:((List.range 17).all fun n=>decide (numV (Lib.decDigits n) 16=some (n:Int)))=true:=by kernel_rfl
theorem num_a {m:Int} (h:0≤m) (h2:m≤40):numV (Lib.decDigits m.toNat) 1024=some m:=by
  have:=of_decide_eq_true (List.all_eq_true.1 nums m.toNat (List.mem_range.2 (by omega)))
  rw [this];congr 1;omega
theorem num_b {m:Int} (h:0≤m) (h2:m≤16):numV (Lib.decDigits m.toNat) 16=some m:=by
  have:=of_decide_eq_true (List.all_eq_true.1 nums2 m.toNat (List.mem_range.2 (by omega)))
  rw [this];congr 1;omega
theorem parm_plan {fields:Bytes} {m f:Int} (h47:(47:UInt8)∉fields) (hm:1≤m) (hm2:m≤40) (hf:2≤f) (hf2:f≤16):parmS (planS fields m f)=if (R44.parseV fields).2=0 then some ((R44.parseV fields).1,m,f) else none:=by
  have e:planS fields m f=(fields++[32])++47::(32::(Lib.decDigits m.toNat++32::Lib.decDigits f.toNat)):=by unfold planS;simp
  have hc:cutB 47 (planS fields m f)=some (fields++[32],32::(Lib.decDigits m.toNat++32::Lib.decDigits f.toNat)):=by
    rw [e];exact cutB_app _ (by rw [List.mem_append,not_or];exact ⟨h47,by decide⟩)
  have hw:R44.words (32::(Lib.decDigits m.toNat++32::Lib.decDigits f.toNat))=[Lib.decDigits m.toNat,Lib.decDigits f.toNat]:=by
    rw [R44.words_sp,R44.words_run (fun c hc=>(R44.dec_mem hc).1) (R44.dec_ne _),R44.words_last (fun c hc=>(R44.dec_mem hc).1) (R44.dec_ne _)]
  unfold parmS
  simp only [hc,hw,num_a (show 0≤m by omega) hm2,num_b (show 0≤f by omega) hf2,parse_sp]
  by_cases h:(R44.parseV fields).2=0
  · rw [if_pos h,if_pos ⟨h,hm,hf⟩]
  · rw [if_neg h,if_neg fun k=>h k.1]
theorem parm_one {fields:Bytes} (h47:(47:UInt8)∉fields):parmS fields=if (R44.parseV fields).2=0 then some ((R44.parseV fields).1,16,4) else none:=by
  unfold parmS;rw [cutB_none h47]
theorem parse_valid {s:Bytes} (h:(R44.parseV s).2=0):R44.valid (R44.parseV s).1=true:=by
  unfold R44.parseV at h ⊢
  by_cases hw:R44.words s=[]
  · rw [if_pos hw];rfl
  · rw [if_neg hw] at h ⊢
    cases hf:R44.fieldsW (R44.splitC 44 s) with
    | none=>rw [hf] at h;exact absurd h (by decide)
    | some r =>
      rw [hf] at h
      simp only at h ⊢
      by_cases hv:R44.valid r=true
      · rw [if_pos hv];exact hv
      · rw [if_neg hv] at h;exact absurd h (by decide)
theorem numV_rg {s:Bytes} {most n:Int} (h:numV s most=some n):0≤n∧n≤most:=by
  unfold numV at h
  split at h
  · split at h
    · rename_i k;cases h;exact ⟨k.1,k.2.1⟩
    · cases h
  · cases h
theorem parm_rg {s:Bytes} {fl:List SortField} {m f:Int} (h:parmS s=some (fl,m,f)):R44.valid fl=true∧1≤m∧m≤1024∧2≤f∧f≤16:=by
  unfold parmS at h
  split at h
  · split at h
    · rename_i k;cases h;exact ⟨parse_valid k,by decide,by decide,by decide,by decide⟩
    · cases h
  · split at h
    · split at h
      · rename_i h1 h2
        split at h
        · rename_i k;cases h
          exact ⟨parse_valid k.1,k.2.1,(numV_rg h1).2,k.2.2,(numV_rg h2).2⟩
        · cases h
      · cases h
    · cases h
theorem sort_srt {l:List SortField} {m fan:Int} {rs:List Bytes} (hv:R44.valid l=true) (hm:1≤m) (hm2:m≤1024) (hf:2≤fan) (hf2:fan≤16) (hl:rs.length≤1024) (hs:∀ i,(rs.getD i []).length≤1000):(R44.sortV l m fan R44.idF R44.noF rs).1=Srt.srt (R44.cmpL l) rs:=by
  cases hq:R44.sortV l m fan R44.idF R44.noF rs with
  | mk out r=>cases r with
    | mk w e=>cases w with
      | mk a b d=>exact (R44.sv_plain hv hm hm2 hf hf2 hl hs hq.symm).1
def sortO (parm:Bytes) (rs:List Bytes):List Bytes:=match parmS parm with
  | none=>[]
  | some (fl,_,_)=>Srt.srt (R44.cmpL fl) rs
theorem sortO_len (parm:Bytes) (rs:List Bytes):(sortO parm rs).length≤rs.length:=by
  unfold sortO;split
  · exact Nat.zero_le _
  · rw [Srt.srt_len];exact Nat.le_refl _
theorem sortO_each {parm:Bytes} {rs:List Bytes} {n:Nat} (h:∀ i,(rs.getD i []).length≤n) (i:Nat):((sortO parm rs).getD i []).length≤n:=by
  refine mem_each (fun x hx=>?_) i
  unfold sortO at hx;split at hx
  · cases hx
  · rw [Srt.srt_mem] at hx;exact each_mem h hx
theorem so_run {parm:Bytes} {xs:List Bytes} {A:Option Addr} {c:Nat} (hx:xs.length≤40) (hs:∀ i,(xs.getD i []).length≤60) {fd:Bool} {cd:Int} {ch:List Change} {ln:List Bytes} (h:RunR (fun cd ch _=>SrtR [] parm [inlineB IN xs A c,freshB OUT 200] cd ch) (¬ SrtOk [] parm [inlineB IN xs A c,freshB OUT 200]) fd cd ch ln):ch=(sortO parm xs).map cpC∧fd = !(parmS parm).isSome:=by
  have hr:recV [] (bd [inlineB IN xs A c,freshB OUT 200] IN)=xs:=rfl
  cases hp:parmS parm with
  | none =>
    rcases h with ⟨_,_,_,fl,m,f,h2,_⟩ | ⟨h1,_,h2,_⟩
    · rw [hp] at h2;cases h2
    · rw [h1,h2];unfold sortO;rw [hp];exact ⟨rfl,rfl⟩
  | some p =>
    obtain ⟨fl,m,f⟩:=p
    have hok:SrtOk [] parm [inlineB IN xs A c,freshB OUT 200]:=⟨by show (0:Int)≤0;decide,by show (0:Int)≤1;decide,rfl,by rw [hp];exact fun e=>(by cases e),seq_fresh _ _,by rw [hr];omega,fun i=>by rw [hr];exact Nat.le_trans (hs i) (by decide)⟩
    obtain ⟨h1,_,_,fl',m',f',h2,hw⟩:=h.ok hok
    rw [hp] at h2;cases h2
    obtain ⟨hv,k1,k2,k3,k4⟩:=parm_rg hp
    rw [hr,sort_srt hv k1 k2 k3 k4 (by omega) (fun i=>Nat.le_trans (hs i) (by decide))] at hw
    have:=hw.2.2 (seq_fresh _ _)
    unfold sortO;rw [hp]
    exact ⟨this,h1⟩
theorem adj_of {fl:List SortField} {rs:List Bytes} (h:Srt.Ordered (R44.cmpL fl) rs):Adj fl rs:=fun j hj hc=>by
  have h1:=List.pairwise_iff_getElem.1 h j (j+1) (by omega) hj (by omega)
  have h2:=(R44.cmpL_ok fl).anti rs[j] rs[j+1]
  rw [List.getD_eq_getElem?_getD,List.getElem?_eq_getElem hj,List.getD_eq_getElem?_getD,List.getElem?_eq_getElem (show j<rs.length by omega)] at hc
  simp only [Option.getD_some] at hc
  unfold R44.cmpV at hc
  split at hc
  · omega
  · omega
theorem me_run {fields:Bytes} {xs:List Bytes} {k:Nat} {A B:Option Addr} {c d:Nat} (h47:(47:UInt8)∉fields) (hx:xs.length≤40) (hp:(parmS fields).isSome=true) {fd:Bool} {cd:Int} {ch:List Change} {ln:List Bytes}
    (h:RunR (fun cd ch _=>MrgR [] fields [inlineB IN1 (sortO fields (xs.take k)) A c,inlineB IN2 (sortO fields (xs.drop k)) B d,freshB OUT 200] cd ch) (¬ MrgOk [] fields [inlineB IN1 (sortO fields (xs.take k)) A c,inlineB IN2 (sortO fields (xs.drop k)) B d,freshB OUT 200]) fd cd ch ln):fd=false∧cd=0∧ch=(sortO fields xs).map cpC:=by
  have r1:recV [] (bd [inlineB IN1 (sortO fields (xs.take k)) A c,inlineB IN2 (sortO fields (xs.drop k)) B d,freshB OUT 200] IN1)=sortO fields (xs.take k):=rfl
  have r2:recV [] (bd [inlineB IN1 (sortO fields (xs.take k)) A c,inlineB IN2 (sortO fields (xs.drop k)) B d,freshB OUT 200] IN2)=sortO fields (xs.drop k):=rfl
  have ho:=parm_one h47
  by_cases h0:(R44.parseV fields).2=0
  · rw [if_pos h0] at ho
    have hs:∀ ys,sortO fields ys=Srt.srt (R44.cmpL (R44.parseV fields).1) ys:=fun ys=>by unfold sortO;rw [ho]
    have hv:=parse_valid h0
    have hm:R44.mergeV (R44.parseV fields).1 [sortO fields (xs.take k),sortO fields (xs.drop k)]=sortO fields xs:=by
      unfold R44.mergeV
      rw [if_pos hv,hs,hs,hs]
      have:=Srt.merge_srt (R44.cmpL_ok (R44.parseV fields).1) [xs.take k,xs.drop k]
      simp only [List.map_cons,List.map_nil,List.flatten_cons,List.flatten_nil,List.append_nil,List.take_append_drop] at this
      exact this
    have hok:MrgOk [] fields [inlineB IN1 (sortO fields (xs.take k)) A c,inlineB IN2 (sortO fields (xs.drop k)) B d,freshB OUT 200]:=⟨by show (0:Int)≤0;decide,by show (0:Int)≤1;decide,by show (0:Int)≤2;decide,rfl,h0,seq_fresh _ _,by
      rw [r1,r2,hm];have:=sortO_len fields xs;omega,by
      rw [r1,r2]
      intro x hx
      rcases List.mem_cons.1 hx with rfl | hx
      · rw [hs];exact adj_of (Srt.srt_ordered (R44.cmpL_ok _) _)
      · rw [List.mem_singleton.1 hx,hs];exact adj_of (Srt.srt_ordered (R44.cmpL_ok _) _)⟩
    obtain ⟨h1,_,hcd,fl,h2,hw⟩:=h.ok hok
    have e:fl=(R44.parseV fields).1:=by rw [h2]
    rw [r1,r2,e,hm] at hw
    exact ⟨h1,hcd,hw.2.2 (seq_fresh _ _)⟩
  · rw [if_neg h0] at ho
    rw [ho] at hp;cases hp
theorem same_plan {fields:Bytes} {m f:Int} (h47:(47:UInt8)∉fields) (hm:1≤m) (hm2:m≤40) (hf:2≤f) (hf2:f≤16) (xs:List Bytes):sortO (planS fields m f) xs=sortO fields xs∧(parmS (planS fields m f)).isSome=(parmS fields).isSome:=by
  unfold sortO
  rw [parm_plan h47 hm hm2 hf hf2,parm_one h47]
  by_cases h:(R44.parseV fields).2=0
  · rw [if_pos h,if_pos h];exact ⟨rfl,rfl⟩
  · rw [if_neg h,if_neg h];exact ⟨rfl,rfl⟩
theorem take_len {xs:List Bytes} {n k:Nat} (h:xs.length≤n):(xs.take k).length≤n:=by rw [List.length_take];omega
theorem drop_len {xs:List Bytes} {n k:Nat} (h:xs.length≤n):(xs.drop k).length≤n:=by rw [List.length_drop];omega
theorem take_each {xs:List Bytes} {n k:Nat} (h:∀ i,(xs.getD i []).length≤n) (i:Nat):((xs.take k).getD i []).length≤n:=mem_each (fun _ hx=>each_mem h (List.mem_of_mem_take hx)) i
theorem drop_each {xs:List Bytes} {n k:Nat} (h:∀ i,(xs.getD i []).length≤n) (i:Nat):((xs.drop k).getD i []).length≤n:=mem_each (fun _ hx=>each_mem h (List.mem_of_mem_drop hx)) i
theorem me_lines {parm:Bytes} {xs:List Bytes} {k:Nat} {A C:Option Addr} {c d:Nat} (h:xs.length≤40) (i:Nat):(([inlineB IN1 (sortO parm (xs.take k)) A c,inlineB IN2 (sortO parm (xs.drop k)) C d,freshB OUT 200]:List Binding).getD i default).Lines.length≤500:=by
  have h1:=sortO_len parm (xs.take k)
  have h2:=sortO_len parm (xs.drop k)
  have h3:=take_len (k:=k) h
  have h4:=drop_len (k:=k) h
  refine lines_all (fun b hb=>?_) i
  rcases List.mem_cons.1 hb with rfl | hb
  · show (sortO parm (xs.take k)).length≤500;omega
  rcases List.mem_cons.1 hb with rfl | hb
  · show (sortO parm (xs.drop k)).length≤500;omega
  rw [List.mem_singleton.1 hb];exact Nat.zero_le _
theorem me_each {parm:Bytes} {xs:List Bytes} {k:Nat} {A C:Option Addr} {c d:Nat} (h:∀ i,(xs.getD i []).length≤60) (i j:Nat):((([inlineB IN1 (sortO parm (xs.take k)) A c,inlineB IN2 (sortO parm (xs.drop k)) C d,freshB OUT 200]:List Binding).getD i default).Lines.getD j []).length≤1000000:=by
  match i with
  | 0=>exact Nat.le_trans (sortO_each (take_each h) j) (by decide)
  | 1=>exact Nat.le_trans (sortO_each (drop_each h) j) (by decide)
  | 2=>show (([]:List Bytes).getD j []).length≤_;simp
  | i+3=>show (([]:List Bytes).getD j []).length≤_;simp
theorem so_at {xs:List Bytes} {j:Nat} (h:j<xs.length):((xs.map cpC).getD j default).Record=xs.getD j []:=by rw [cp_at h];rfl
theorem so_snoc {xs:List Bytes} {j:Nat} (h:j<xs.length):xs.take j++[((xs.map cpC).getD j default).Record]=xs.take (j+1):=by rw [so_at h];exact (take_snoc h).symm
theorem not_f {b:Bool} (h:(!b)=false):b=true:=by cases b with
  | true=>rfl
  | false=>cases h
theorem not_t {b:Bool} (h:(!b)=true):b=false:=by cases b with
  | false=>rfl
  | true=>cases h
theorem so_no {a b:Bool} {s:Bytes} (h:((a||b)||decide ((47:UInt8)∈s))=false):(47:UInt8)∉s:=of_decide_eq_false (Bool.or_eq_false_iff.1 h).2
theorem so_len {s:List Bytes} {a b:Bool} (h:((decide ((40:Int)<((s.length:Nat):Int))||a)||b)=false):s.length≤40:=by
  have:=of_decide_eq_false (Bool.or_eq_false_iff.1 (Bool.or_eq_false_iff.1 h).1).1;omega
theorem so_flen {s:Bytes} {a b:Bool} (h:((a||decide ((60:Int)<((s.length:Nat):Int)))||b)=false):s.length≤60:=by
  have:=of_decide_eq_false (Bool.or_eq_false_iff.1 (Bool.or_eq_false_iff.1 h).1).2;omega
theorem plan_len {fields:Bytes} {a b:Int} (h:fields.length≤60) (ha:a≤1000) (hb:b≤1000):((((fields++[32,47,32])++Lib.decDigits a.toNat)++[32])++Lib.decDigits b.toNat).length≤1000:=by
  have h1:=dec_lenI a (by omega)
  have h2:=dec_lenI b (by omega)
  simp only [List.length_append,List.length_cons,List.length_nil]
  omega
theorem so_end {fields:Bytes} {xs:List Bytes} (h:(parmS fields).isSome=false):decide ((((sortO fields xs).length:Nat):Int)=0)=true:=by
  refine decide_eq_true ?_
  unfold sortO
  cases hp:parmS fields with
  | none=>rfl
  | some p=>rw [hp] at h;cases h
theorem mod_u8 {n:Nat} (m:UInt8) (h:0<n∧n≤255):(m % UInt8.ofNat n).toNat≤n-1:=by
  rw [UInt8.toNat_mod,UInt8.toNat_ofNat']
  have:n % 2 ^ 8=n:=Nat.mod_eq_of_lt (by omega)
  rw [this]
  have:=Nat.mod_lt m.toNat h.1
  omega
theorem so_bad {fields:Bytes} {xs:List Bytes} {m f:Int} (h47:(47:UInt8)∉fields) (hm:1≤m) (hm2:m≤40) (hf:2≤f) (hf2:f≤16) (hp:(parmS fields).isSome=true)
    (hb:(((((((!((parmS (planS fields m f)).isSome))||(!((parmS fields).isSome)))||(!((parmS fields).isSome)))||false)||false)||(!(decide (sortO fields xs=sortO (planS fields m f) xs))))||(decide (((((sortO fields xs).map cpC).length:Nat):Int)≠((xs.length:Nat):Int))))=true):False:=by
  obtain ⟨h1,h2⟩:=same_plan h47 hm hm2 hf hf2 xs
  have h3:((sortO fields xs).map cpC).length=xs.length:=by
    rw [List.length_map];unfold sortO
    cases hq:parmS fields with
    | none=>rw [hq] at hp;cases hp
    | some p=>exact Srt.srt_len _
  rw [h1,h2,hp,h3] at hb
  simp at hb
end R45
end Go.Proofs.YtggobegaiijhhaaGreatDoor
namespace Go.GV
end Go.GV
namespace Go.Proofs.YtggobegaiijhhaaGreatDoor
open Go.GV
namespace Ty
end Ty
end Go.Proofs.YtggobegaiijhhaaGreatDoor
