/- Pl44i, Pl44j, Wd44, Pl44k, Pl44l, Pl44m, Pl44n, Pl45l in one text. -/
import Derived.Test.YtggobegaiijhhaaGreatDoorUtilityOnly20
import Derived.Lib.FieldsP
import Derived.Lib.TrimUEq
import Derived.Lib.SplitLaws
import Derived.Lib.Join
set_option linter.unusedVariables false
set_option linter.unusedSimpArgs false
namespace Go.Proofs.YtggobegaiijhhaaGreatDoor
open Go.GV
structure Part where
  s:List Rw
  sA:Option Addr
  sC:Nat
deriving Inhabited
def Part.enc (a:Part):List Value:=[vL a.sA a.s.length a.sC]
namespace R44
open Srt (Cmp)
def part (n:Nat) (rws:List Rw) (A:Option Addr) (lo:Nat):Part:=⟨(rws.drop lo).take (min n (rws.length-lo)),subA A (lo+min n (rws.length-lo)) lo 1,min n (rws.length-lo)⟩
theorem part_enc {n:Nat} {rws:List Rw} {A:Option Addr} {lo:Nat} : [vL (subA A (lo+min n (rws.length-lo)) lo 1) (min n (rws.length-lo)) (min n (rws.length-lo))]=Part.enc (part n rws A lo):=by
  show _=[vL _ (((rws.drop lo).take (min n (rws.length-lo))).length) _]
  rw [List.length_take,List.length_drop,Nat.min_eq_left (Nat.min_le_right _ _)];rfl
def partsN (n:Nat) (rws:List Rw) (A:Option Addr):Nat→Nat→List Part
  | 0,_=>[]
  | f+1,lo=>if lo<rws.length then part n rws A lo::partsN n rws A f (lo+n) else []
def parts (n:Nat) (rws:List Rw) (A:Option Addr):List Part:=partsN n rws A rws.length 0
section
variable {n:Nat} {rws:List Rw} {A:Option Addr} {lo:Nat} {pre:List Part}
theorem partsN_any (hn:1≤n):∀ (f f' lo:Nat),rws.length-lo≤f→rws.length-lo≤f'→partsN n rws A f lo=partsN n rws A f' lo
  | 0,0,_,_,_=>rfl
  | 0,f'+1,lo,h,_=>by rw [partsN,partsN,if_neg (by omega)]
  | f+1,0,lo,_,h=>by rw [partsN,partsN,if_neg (by omega)]
  | f+1,f'+1,lo,h,h'=>by
    rw [partsN,partsN]
    split
    · rw [partsN_any hn f f' (lo+n) (by omega) (by omega)]
    · rfl
def PartJ (n:Nat) (rws:List Rw) (A:Option Addr) (pre:List Part) (lo:Nat):Prop:=pre++partsN n rws A rws.length lo=parts n rws A
theorem PartJ.start:PartJ n rws A [] 0:=rfl
theorem partsN_cons (hn:1≤n) (h:lo<rws.length):partsN n rws A rws.length lo=part n rws A lo::partsN n rws A rws.length (lo+n):=by
  obtain ⟨f,hf⟩:∃ f,rws.length=f+1:=⟨rws.length-1,by omega⟩
  conv=>lhs;rw [hf]
  rw [partsN,if_pos h,partsN_any hn f rws.length (lo+n) (by omega) (by omega)]
theorem PartJ.yield (h:PartJ n rws A pre lo) (hn:1≤n) (hl:lo<rws.length):parts n rws A=pre++part n rws A lo::partsN n rws A rws.length (lo+n):=by
  rw [← partsN_cons hn hl];exact h.symm
theorem PartJ.step (h:PartJ n rws A pre lo) (hn:1≤n) (hl:lo<rws.length):PartJ n rws A (pre++[part n rws A lo]) (lo+n):=by
  unfold PartJ;rw [h.yield hn hl];simp
theorem PartJ.done (h:PartJ n rws A pre lo) (hl:¬ lo<rws.length):pre=parts n rws A:=by
  rw [← h]
  have:partsN n rws A rws.length lo=[]:=by
    cases rws.length with
    | zero=>rfl
    | succ f=>rw [partsN,if_neg (by omega)]
  rw [this,List.append_nil]
theorem partsN_mem:∀ (f lo:Nat) {p:Part},p∈partsN n rws A f lo → ∃ k,k<rws.length∧p=part n rws A k
  | 0,_,_,h=>by cases h
  | f+1,lo,p,h=>by
    rw [partsN] at h
    split at h
    · rename_i hl
      rcases List.mem_cons.1 h with rfl | h
      · exact ⟨lo,hl,rfl⟩
      · exact partsN_mem f _ h
    · cases h
theorem part_of {p:Part} {rest:List Part} (h:parts n rws A=pre++p::rest):∃ k,k<rws.length∧p=part n rws A k:=partsN_mem rws.length 0 (by show p∈parts n rws A;rw [h];simp)
theorem partsN_len:∀ (f lo:Nat),(partsN n rws A f lo).length≤f
  | 0,_=>Nat.le_refl _
  | f+1,lo=>by
    rw [partsN];split
    · rw [List.length_cons];have:=partsN_len f (lo+n);omega
    · exact Nat.zero_le _
theorem part_pre {p:Part} {rest:List Part} (h:parts n rws A=pre++p::rest):pre.length<rws.length:=by
  have h1:(parts n rws A).length≤rws.length:=partsN_len _ _
  rw [h] at h1;simp at h1;omega
theorem sub_at {k m i:Nat} : ((rws.drop k).take m).getD i default=if i<m then rws.getD (k+i) default else default:=by
  rw [List.getD_eq_getElem?_getD,List.getElem?_take]
  split
  · rw [List.getElem?_drop,← List.getD_eq_getElem?_getD]
  · rfl
variable {rest:List Part} {ps:List Rw} {pA:Option Addr} {pC:Nat}
theorem part_ro {S:List Nat} {w:World} (h:parts n rws A=pre++⟨ps,pA,pC⟩::rest) (hr:RO S w A (rws.flatMap Rw.enc)):RO S w pA (ps.flatMap Rw.enc):=by
  obtain ⟨k,hk,e⟩:=part_of h
  cases e
  have:=hr.sub (k+min n (rws.length-k)) k (min n (rws.length-k)) 1 (by omega)
  rwa [← drop_flat Rw.enc 1 Rw.enc_len,← take_flat Rw.enc 1 Rw.enc_len] at this
theorem part_ron {S:List Nat} {w:World} (h:parts n rws A=pre++⟨ps,pA,pC⟩::rest) (hr:∀ i:Nat,RO S w (rws.getD i default).sA ((rws.getD i default).s.map vS)) (i:Nat):RO S w (ps.getD i default).sA ((ps.getD i default).s.map vS):=by
  obtain ⟨k,hk,e⟩:=part_of h
  cases e
  rw [sub_at];split
  · exact hr _
  · exact RO.nil
theorem part_len (h:parts n rws A=pre++⟨ps,pA,pC⟩::rest) {m:Nat} (hm:rws.length≤m):ps.length≤m:=by
  obtain ⟨k,hk,e⟩:=part_of h
  cases e
  rw [List.length_take,List.length_drop];omega
theorem part_short (h:parts n rws A=pre++⟨ps,pA,pC⟩::rest) {m:Nat} (hm:∀ i j,((rws.getD i default).s.getD j []).length≤m) (i j:Nat):((ps.getD i default).s.getD j []).length≤m:=by
  obtain ⟨k,hk,e⟩:=part_of h
  cases e
  rw [sub_at];split
  · exact hm _ _
  · exact Nat.zero_le _
theorem part_cap (h:parts n rws A=pre++⟨ps,pA,pC⟩::rest) (hm:∀ i:Nat,(rws.getD i default).s.length≤(rws.getD i default).sC) (i:Nat):(ps.getD i default).s.length≤(ps.getD i default).sC:=by
  obtain ⟨k,hk,e⟩:=part_of h
  cases e
  rw [sub_at];split
  · exact hm _
  · exact Nat.zero_le _
theorem flat_sub {α:Type} (X:List (List α)) (k m:Nat):((X.drop k).take m).flatten.length≤X.flatten.length:=by
  have h1:=congrArg (fun l=>(List.flatten l).length) (List.take_append_drop k X)
  have h2:=congrArg (fun l=>(List.flatten l).length) (List.take_append_drop m (X.drop k))
  simp only [List.flatten_append,List.length_append] at h1 h2
  omega
theorem part_flat (h:parts n rws A=pre++⟨ps,pA,pC⟩::rest) {m:Nat} (hm:(rws.map Rw.s).flatten.length≤m):(ps.map Rw.s).flatten.length≤m:=by
  obtain ⟨k,hk,e⟩:=part_of h
  cases e
  refine Nat.le_trans ?_ hm
  rw [List.map_take,List.map_drop]
  exact flat_sub _ _ _
theorem parts_chunks (hn:1≤n):∀ (f lo:Nat),rws.length-lo≤f→(partsN n rws A f lo).map (fun p=>p.s.map Rw.s)=Srt.chunks n ((rws.drop lo).map Rw.s)
  | 0,lo,h=>by rw [List.drop_of_length_le (by omega)];rfl
  | f+1,lo,hf=>by
    rw [partsN]
    by_cases h:lo<rws.length
    · rw [if_pos h,Srt.chunks_cons (by omega) (by rw [ne_eq,List.map_eq_nil_iff,List.drop_eq_nil_iff];omega),List.map_cons,parts_chunks hn f (lo+n) (by omega),← List.map_take,← List.map_drop,List.drop_drop]
      congr 1
      show ((rws.drop lo).take (min n (rws.length-lo))).map Rw.s=_
      by_cases h2:n≤rws.length-lo
      · rw [Nat.min_eq_left h2]
      · rw [Nat.min_eq_right (by omega),List.take_of_length_le (by rw [List.length_drop];omega),List.take_of_length_le (by rw [List.length_drop];omega)]
    · rw [if_neg h,List.drop_of_length_le (by omega)];rfl
theorem parts_pass {l:List SortField} (hv:valid l=true) (hn:1≤n):(parts n rws A).map (fun p=>mergeV l (p.s.map Rw.s))=Srt.pass (cmpL l) n (rws.map Rw.s):=by
  have h:=parts_chunks (rws:=rws) (A:=A) hn rws.length 0 (by omega)
  unfold Srt.pass
  rw [show rws.map Rw.s=(rws.drop 0).map Rw.s from rfl,← h,List.map_map]
  refine List.map_congr_left fun p _=>?_
  exact (mergeV_yes hv).symm
end
structure PassJ (c:Bytes→Bytes→Int) (f:Nat) (R0 X:List (List Bytes)) (np:Nat):Prop where
  fin:(Srt.rounds c f X).1=(Srt.rounds c f R0).1
  cnt:np+(Srt.rounds c f X).2=(Srt.rounds c f R0).2
  perm:X.flatten.Perm R0.flatten
  few:X.length≤R0.length
section
variable {c:Bytes→Bytes→Int} {f np:Nat} {R0 X:List (List Bytes)}
theorem PassJ.start:PassJ c f R0 R0 0:=⟨rfl,Nat.zero_add _,.refl _,Nat.le_refl _⟩
theorem PassJ.step (hc:Cmp c) (hf:2≤f) (h:PassJ c f R0 X np) (hl:1<X.length):PassJ c f R0 (Srt.pass c f X) (np+1):=by
  have hr:=Srt.rounds_more (c:=c) hf hl
  have h1:=h.fin
  have h2:=h.cnt
  rw [hr] at h1 h2
  refine ⟨h1,?_,(Srt.pass_perm hc (by omega) X).trans h.perm,?_⟩
  · simp only at h2;omega
  · have:=Srt.pass_less (c:=c) hf hl;have:=h.few;omega
theorem PassJ.done (h:PassJ c f R0 X np) (hl:¬ 1<X.length):(Srt.rounds c f R0).1=X∧(Srt.rounds c f R0).2=np:=by
  have hr:=Srt.rounds_done (c:=c) (n:=f) (ls:=X) (by omega)
  have h1:=h.fin
  have h2:=h.cnt
  rw [hr] at h1 h2
  exact ⟨h1.symm,by simp only at h2;omega⟩
end
theorem passes_le (f:Nat):∀ m n:Nat,Srt.passes f m n≤m
  | 0,_=>Nat.le_refl _
  | m+1,n=>by
    rw [Srt.passes];split
    · exact Nat.zero_le _
    · have:=passes_le f m ((n+f-1) / f);omega
theorem pass_bounds {l:List SortField} {m:Nat} (hm:0<m) {inn:List Bytes} {rws:List Rw} {f np:Nat} (hf:2≤f) (h:PassJ (cmpL l) f (Srt.runs (cmpL l) m inn) (rws.map Rw.s) np) {N n:Nat} (hi:inn.length≤N) (hs:∀ i,(inn.getD i []).length≤n) :
    rws.length≤N∧(rws.map Rw.s).flatten.length≤N∧(∀ i j,((rws.getD i default).s.getD j []).length≤n)∧np≤N:=by
  have hp:=h.perm.trans (Srt.runs_perm (cmpL_ok l) hm inn)
  have h1:=h.few
  have h2:=(runs_small (cmpL_ok l) hm inn).1
  rw [List.length_map] at h1
  have h3:=h.cnt
  rw [Srt.rounds_count hf,Srt.rounds_count hf] at h3
  have h4:=passes_le f (Srt.runs (cmpL l) m inn).length (Srt.runs (cmpL l) m inn).length
  refine ⟨by omega,by rw [hp.length_eq];exact hi,fun i j=>?_,by omega⟩
  by_cases hi:i<rws.length
  · by_cases hj:j<(rws.getD i default).s.length
    · have hm1:(rws.getD i default).s.getD j []∈(rws.map Rw.s).flatten:=List.mem_flatten.2 ⟨(rws.getD i default).s,List.mem_map_of_mem (getD_mem hi),getD_mem hj⟩
      obtain ⟨k,hk,e⟩:=getD_ex (d:=[]) (hp.mem_iff.1 hm1)
      rw [← e];exact hs k
    · rw [List.getD_eq_getElem?_getD,List.getElem?_eq_none (by omega)];exact Nat.zero_le _
  · rw [getD_out (by omega)];exact Nat.zero_le _
theorem map_lens {next:List Rw} {pre:List Part} {f:Part→List Bytes} (h:next.map Rw.s=pre.map f):next.length=pre.length:=by
  have:=congrArg List.length h
  rwa [List.length_map,List.length_map] at this
theorem PassJ.start_of {c:Bytes→Bytes→Int} {f:Nat} {R0 X:List (List Bytes)} (h:X=R0):PassJ c f R0 X 0:=by subst h;exact .start
theorem pass_next {l:List SortField} {kf np:Nat} {R0:List (List Bytes)} {runs next:List Rw} {A:Option Addr} (hc:Cmp (cmpL l)) (hf:2≤kf) (h:PassJ (cmpL l) kf R0 (runs.map Rw.s) np) (hl:1<runs.length) (hv:valid l=true) (hn:next.map Rw.s=(parts kf runs A).map (fun p=>mergeV l (p.s.map Rw.s))):PassJ (cmpL l) kf R0 (next.map Rw.s) (np+1):=by
  rw [hn,parts_pass hv (by omega)]
  exact h.step hc hf (by rw [List.length_map];exact hl)
theorem pass_dec {l:List SortField} {kf:Nat} {runs next:List Rw} {A:Option Addr} (hf:2≤kf) (hl:1<runs.length) (hv:valid l=true) (hn:next.map Rw.s=(parts kf runs A).map (fun p=>mergeV l (p.s.map Rw.s))):next.length<runs.length:=by
  have h1:=map_lens (hn.trans rfl)
  have h2:=congrArg List.length hn
  rw [parts_pass hv (by omega),List.length_map] at h2
  have:=Srt.pass_less (c:=cmpL l) hf (ls:=runs.map Rw.s) (by rw [List.length_map];exact hl)
  rw [List.length_map] at this;omega
abbrev g1 (l:List SortField) (m fan:Int):Bool:=((((!(valid l))||decide (m<1))||decide ((1024:Int)<m))||decide (fan<2))||decide ((16:Int)<fan)
abbrev g2 (rs:List Bytes):Bool:=decide ((1024:Int)<((rs.length:Nat):Int))||long rs
def sortV (l:List SortField) (m fan:Int) (fi:Bytes→Bytes × Bool) (fs:Bytes→Bytes→Bytes × Bool) (rs:List Bytes):List Bytes × SortWork × Int:=
  if g1 l m fan=true then ([],⟨0,0,0⟩,1)
  else if g2 rs=true then ([],⟨0,0,0⟩,8)
  else if (inR fi rs).2.2≠0 then ([],⟨0,0,0⟩,(inR fi rs).2.2)
  else if (sums (cmpL l) fs [] (Srt.srt (cmpL l) (inR fi rs).1)).2≠0 then ([],⟨0,0,0⟩,(sums (cmpL l) fs [] (Srt.srt (cmpL l) (inR fi rs).1)).2)
  else ((sums (cmpL l) fs [] (Srt.srt (cmpL l) (inR fi rs).1)).1,⟨((Srt.runs (cmpL l) m.toNat (inR fi rs).1).length:Int),((Srt.rounds (cmpL l) fan.toNat (Srt.runs (cmpL l) m.toNat (inR fi rs).1)).2:Int),(rs.length:Int)-((sums (cmpL l) fs [] (Srt.srt (cmpL l) (inR fi rs).1)).1.length:Int)⟩,0)
section
variable {l:List SortField} {m fan:Int} {fi:Bytes→Bytes × Bool} {fs:Bytes→Bytes→Bytes × Bool} {rs:List Bytes}
theorem sv_1 (h:g1 l m fan=true):([],SortWork.mk 0 0 0,(1:Int))=sortV l m fan fi fs rs:=by unfold sortV;rw [if_pos h]
theorem sv_2 (h:g1 l m fan=false) (h2:g2 rs=true):([],SortWork.mk 0 0 0,(8:Int))=sortV l m fan fi fs rs:=by unfold sortV;rw [if_neg (by rw [h];decide),if_pos h2]
theorem inR_drop {inn:List Bytes} {n e:Int} (h3:(inn,n,e)=inR fi rs) (he:¬ e≠0):n=(rs.length:Int)-(inn.length:Int):=by
  unfold inR at h3
  cases hi:inputs fi rs with
  | none=>rw [hi] at h3;cases h3;exact absurd (by decide) he
  | some out=>rw [hi] at h3;cases h3;rfl
theorem sv_5 {inn:List Bytes} {n e e2:Int} {out sorted:List Bytes} {n1 n2:Nat} {d:Int} (h:g1 l m fan=false) (h2:g2 rs=false) (h3:(inn,n,e)=inR fi rs) (he:¬ e≠0) (hs:sorted=Srt.srt (cmpL l) inn) (h4:(out,e2)=sums (cmpL l) fs [] sorted) (he2:¬ e2≠0)
    (hn1:n1=(Srt.runs (cmpL l) m.toNat inn).length) (hn2:(Srt.rounds (cmpL l) fan.toNat (Srt.runs (cmpL l) m.toNat inn)).2=n2) (hd:d=n+((sorted.length:Int)-(out.length:Int))):(out,SortWork.mk (n1:Int) (n2:Int) d,(0:Int))=sortV l m fan fi fs rs:=by
  have hlen:sorted.length=inn.length:=by rw [hs,Srt.srt_len]
  have hn:=inR_drop h3 he
  subst hs
  unfold sortV;rw [if_neg (by rw [h];decide),if_neg (by rw [h2];decide),← h3,if_neg he,← h4,if_neg he2,hn1,hn2]
  have:d=(rs.length:Int)-(out.length:Int):=by omega
  rw [this]
end
section
variable {fi:Bytes→Bytes × Bool} {c:Bytes→Bytes→Int} {fs:Bytes→Bytes→Bytes × Bool} {rs inn out:List Bytes} {n e:Int}
end
def idF (s:Bytes):Bytes × Bool:=(s,true)
def noF (_ _:Bytes):Bytes × Bool:=([],false)
theorem inputs_id:∀ {l:List Bytes},(∀ x∈l,x.length≤1000)→inputs idF l=some l
  | [],_=>rfl
  | s::r,h=>by
    have hs:=h s List.mem_cons_self
    show (if (true:Bool)=true then (if 1000<s.length then none else (inputs idF r).map fun l=>s::l) else inputs idF r)=_
    rw [if_pos rfl,if_neg (by omega),inputs_id fun x hx=>h x (List.mem_cons_of_mem _ hx)];rfl
theorem inR_id {rs:List Bytes} (h:g2 rs=false):(rs,(0:Int),(0:Int))=inR idF rs:=by
  unfold g2 at h
  have h2:=(Bool.or_eq_false_iff.1 h).2
  have:=inR_end (f:=idF) (rs:=rs) (inputs_id fun x hx=>by
    obtain ⟨i,hi,e⟩:=getD_ex (d:=[]) hx
    rw [← e];exact long_facts h2 i)
  rwa [Int.sub_self] at this
theorem sums_no {c:Bytes→Bytes→Int} {l:List Bytes} : (l,(0:Int))=sums c noF [] l:=by
  rw [sums_nil (fun _ _=>rfl)];rfl
theorem one_row {l:List SortField} {m fan:Nat} {inn:List Bytes} {rws:List Rw} {np:Nat} (hm:0<m) (hf:2≤fan) (h:PassJ (cmpL l) fan (Srt.runs (cmpL l) m inn) (rws.map Rw.s) np) (hl:¬ 1<rws.length):(rws.getD 0 default).s=Srt.srt (cmpL l) inn∧(Srt.rounds (cmpL l) fan (Srt.runs (cmpL l) m inn)).2=np:=by
  have h1:=h.done (by rw [List.length_map];exact hl)
  have h2:=Srt.sorts (cmpL_ok l) hm hf inn
  rw [h1.1,map_at] at h2
  exact ⟨h2.2,h1.2⟩
theorem one_none {l:List SortField} {rws:List Rw} {inn:List Bytes} (h0:¬ 0<rws.length) (h:(rws.getD 0 default).s=Srt.srt (cmpL l) inn):[]=Srt.srt (cmpL l) inn:=by
  rw [← h,getD_out (by omega)];rfl
theorem runsV_yes {l:List SortField} {m:Int} {rs:List Bytes} {X:List (List Bytes)} (hm:1≤m) (hv:valid l=true) (h:X=runsV l m rs):X=Srt.runs (cmpL l) m.toNat rs:=by rw [h];unfold runsV;rw [if_pos ⟨hm,hv⟩]
theorem g1_facts {l:List SortField} {m fan:Int} (h:g1 l m fan=false):valid l=true∧1≤m∧m≤1024∧2≤fan∧fan≤16:=by
  unfold g1 at h
  simp only [Bool.or_eq_false_iff,decide_eq_false_iff_not,Bool.not_eq_false'] at h
  refine ⟨h.1.1.1.1,by omega,by omega,by omega,by omega⟩
end R44
end Go.Proofs.YtggobegaiijhhaaGreatDoor
namespace Go.Proofs.YtggobegaiijhhaaGreatDoor
open Go.GV
namespace R44
open Srt (Cmp)
section
variable {c:Bytes→Bytes→Int} {f:Bytes→Bytes→Bytes × Bool} {out l:List Bytes} {k:Nat} {R:List Bytes × Int}
end
section
variable {l:List SortField} {m:Int} {kf:Nat} {fi:Bytes→Bytes × Bool} {fs:Bytes→Bytes→Bytes × Bool} {rs inn out:List Bytes}
end
end R44
end Go.Proofs.YtggobegaiijhhaaGreatDoor
namespace Go.Proofs.YtggobegaiijhhaaGreatDoor
namespace R44
open Go.Lib
abbrev Bs:=List UInt8
def wordsGo:Bs→Bs→List Bs
  | cur,[]=>if cur=[] then [] else [cur]
  | cur,c::r=>if c=32 then (if cur=[] then wordsGo [] r else cur::wordsGo [] r) else wordsGo (cur++[c]) r
def words (s:Bs):List Bs:=wordsGo [] s
theorem wordsGo_run:∀ (m cur rest:Bs),(∀ c∈m,c≠32)→wordsGo cur (m++rest)=wordsGo (cur++m) rest
  | [],cur,rest,_=>by simp
  | c::m,cur,rest,h=>by
    rw [List.cons_append,wordsGo,if_neg (h c List.mem_cons_self),wordsGo_run m _ rest fun x hx=>h x (List.mem_cons_of_mem _ hx)]
    simp
theorem decode_blank (s:ByteArray) (pos:Nat) (h:pos<s.data.toList.length) :
    (s.data.toList.getD pos 0=32→Utf8.decode s pos=(32,1))∧(s.data.toList.getD pos 0≠32→(Utf8.decode s pos).1≠32∧1≤(Utf8.decode s pos).2∧pos+(Utf8.decode s pos).2≤s.data.toList.length ∧ ∀ k,k<(Utf8.decode s pos).2→s.data.toList.getD (pos+k) 0≠32):=by
  rw [decode_N]
  generalize hL:s.data.toList=L at *
  have key:∀ x:UInt8,x=32↔x.toNat=32:=fun x=>⟨fun e=>by rw [e];rfl,fun e=>UInt8.toNat_inj.1 e⟩
  constructor
  · intro h0
    rw [(key _).1 h0];rfl
  · intro h0
    rw [ne_eq,key] at h0
    have h1:=UInt8.toNat_lt (L.getD pos 0)
    generalize hb0:(L.getD pos 0).toNat=b0 at *
    generalize hb1:(L.getD (pos+1) 0).toNat=b1
    generalize hb2:(L.getD (pos+2) 0).toNat=b2
    generalize hb3:(L.getD (pos+3) 0).toNat=b3
    have fin:∀ w r:Nat,r≠32→1≤w→w≤4→w≤L.length-pos→(2≤w→b1≠32)→(3≤w→b2≠32)→(4≤w→b3≠32)→((r,w):Nat × Nat).1≠32∧1≤((r,w):Nat × Nat).2∧pos+((r,w):Nat × Nat).2≤L.length ∧ ∀ k,k<((r,w):Nat × Nat).2→L.getD (pos+k) 0≠32:=by
      intro w r hr hw hw4 hl h2 h3 h4
      refine ⟨hr,hw,by simp only;omega,fun k hk=>?_⟩
      simp only at hk
      rw [ne_eq,key]
      rcases k with _ | _ | _ | _ | k
      · rw [Nat.add_zero,hb0];exact h0
      · rw [Nat.zero_add,hb1];exact h2 (by omega)
      · rw [Nat.zero_add,hb2];exact h3 (by omega)
      · rw [Nat.zero_add,hb3];exact h4 (by omega)
      · omega
    unfold decodeN
    split
    · exact fin 1 b0 h0 (by omega) (by omega) (by omega) (by omega) (by omega) (by omega)
    · split
      · rename_i c1
        split
        · exact fin 2 _ (by omega) (by omega) (by omega) (by omega) (by omega) (by omega) (by omega)
        · exact fin 1 _ (by omega) (by omega) (by omega) (by omega) (by omega) (by omega) (by omega)
      · split
        · rename_i c1
          split
          · exact fin 3 _ (by omega) (by omega) (by omega) (by omega) (by omega) (by omega) (by omega)
          · exact fin 1 _ (by omega) (by omega) (by omega) (by omega) (by omega) (by omega) (by omega)
        · split
          · rename_i c1
            split
            · exact fin 4 _ (by omega) (by omega) (by omega) (by omega) (by omega) (by omega) (by omega)
            · exact fin 1 _ (by omega) (by omega) (by omega) (by omega) (by omega) (by omega) (by omega)
          · exact fin 1 _ (by omega) (by omega) (by omega) (by omega) (by omega) (by omega) (by omega)
def piece (L:Bs) (x:Nat × Nat):Bs:=(L.drop x.1).take (x.2-x.1)
theorem extract_piece (s:ByteArray) (x:Nat × Nat):(s.extract x.1 x.2).data.toList=piece s.data.toList x:=by
  unfold piece
  rw [ByteArray.data_extract,Array.toList_extract]
theorem size_len (s:ByteArray):s.size=s.data.toList.length:=rfl
theorem drop_at {L:Bs} {k:Nat} (h:k<L.length):L.drop k=L.getD k 0::L.drop (k+1):=by
  rw [List.drop_eq_getElem_cons h,List.getD_eq_getElem?_getD,List.getElem?_eq_getElem h];rfl
theorem run_of {L:Bs} {pos w:Nat} (h:pos+w≤L.length) (hn:∀ k,k<w→L.getD (pos+k) 0≠32):∀ c∈(L.drop pos).take w,c≠32:=fun c hc=>by
  obtain ⟨i,hi,e⟩:=List.mem_iff_getElem.1 hc
  rw [List.length_take,List.length_drop] at hi
  have:=hn i (by omega)
  rw [List.getD_eq_getElem?_getD,List.getElem?_eq_getElem (by omega)] at this
  rw [← e,List.getElem_take,List.getElem_drop];exact this
theorem step_run {L:Bs} {pos w:Nat} (cur:Bs) (h:pos+w≤L.length) (hn:∀ k,k<w→L.getD (pos+k) 0≠32):wordsGo cur (L.drop pos)=wordsGo (cur++(L.drop pos).take w) (L.drop (pos+w)):=by
  conv=>lhs;rw [← List.take_append_drop w (L.drop pos),List.drop_drop]
  exact wordsGo_run _ _ _ (run_of h hn)
theorem grow {L:Bs} {a pos w:Nat} (h:a≤pos):(L.drop a).take (pos-a)++(L.drop pos).take w=(L.drop a).take (pos+w-a):=by
  have e:pos+w-a=(pos-a)+w:=by omega
  rw [e,List.take_add,List.drop_drop,show a+(pos-a)=pos by omega]
theorem spans_words (s:ByteArray):∀ (f pos:Nat) (acc:List (Nat × Nat)),s.size-pos≤f →
    ((closeSpans s (spansFromP (fun n=>n == 32) s f pos none acc)).map (piece s.data.toList)=acc.map (piece s.data.toList)++wordsGo [] (s.data.toList.drop pos)) ∧
    ∀ a,a<pos→pos≤s.size→(closeSpans s (spansFromP (fun n=>n == 32) s f pos (some a) acc)).map (piece s.data.toList)=acc.map (piece s.data.toList)++wordsGo ((s.data.toList.drop a).take (pos-a)) (s.data.toList.drop pos):=by
  intro f
  have done:∀ (pos:Nat) (acc:List (Nat × Nat)),s.size≤pos→((closeSpans s (acc,none)).map (piece s.data.toList)=acc.map (piece s.data.toList)++wordsGo [] (s.data.toList.drop pos)) ∧
      ∀ a,a<pos→pos≤s.size→(closeSpans s (acc,some a)).map (piece s.data.toList)=acc.map (piece s.data.toList)++wordsGo ((s.data.toList.drop a).take (pos-a)) (s.data.toList.drop pos):=by
    intro pos acc hp
    rw [size_len] at hp
    rw [List.drop_of_length_le hp]
    refine ⟨by simp [closeSpans,wordsGo],fun a ha hps=>?_⟩
    have hps':pos=s.size:=by rw [size_len] at *;omega
    have hne:(s.data.toList.drop a).take (pos-a)≠[]:=by
      intro e
      have:=congrArg List.length e
      rw [List.length_take,List.length_drop,← size_len] at this
      simp at this;omega
    rw [wordsGo,if_neg hne]
    simp [closeSpans,piece,hps']
  induction f with
  | zero =>
    intro pos acc h
    exact done pos acc (by omega)
  | succ f ih =>
    intro pos acc h
    unfold spansFromP
    by_cases hp:pos<s.size
    · simp only [if_pos hp]
      have hd:=decode_blank s pos hp
      by_cases h32:s.data.toList.getD pos 0=32
      · have e:=hd.1 h32
        have hr:((Utf8.decode s pos).1 == 32)=true:=by rw [e];rfl
        simp only [if_pos hr]
        rw [e]
        have hdrop:=drop_at (L:=s.data.toList) (k:=pos) hp
        refine ⟨?_,fun a ha _=>?_⟩
        · show (closeSpans s (spansFromP _ s f (pos+1) none acc)).map _=_
          rw [(ih (pos+1) acc (by omega)).1,hdrop,wordsGo,if_pos h32,if_pos rfl]
        · show (closeSpans s (spansFromP _ s f (pos+1) none (acc++[(a,pos)]))).map _=_
          have hne:(s.data.toList.drop a).take (pos-a)≠[]:=by
            intro e
            have:=congrArg List.length e
            rw [List.length_take,List.length_drop,← size_len] at this
            simp at this;omega
          rw [(ih (pos+1) (acc++[(a,pos)]) (by omega)).1,hdrop,wordsGo,if_pos h32,if_neg hne,List.map_append,List.append_assoc];rfl
      · obtain ⟨e1,e2,e3,e4⟩:=hd.2 h32
        have hr:¬ ((Utf8.decode s pos).1 == 32)=true:=by simpa using e1
        simp only [if_neg hr]
        have ih2:=(ih (pos+(Utf8.decode s pos).2) acc (by omega)).2
        refine ⟨?_,fun a ha _=>?_⟩
        · show (closeSpans s (spansFromP _ s f (pos+(Utf8.decode s pos).2) (some pos) acc)).map _=_
          rw [ih2 pos (by omega) e3,step_run [] e3 e4,List.nil_append,Nat.add_sub_cancel_left]
        · show (closeSpans s (spansFromP _ s f (pos+(Utf8.decode s pos).2) (some a) acc)).map _=_
          rw [ih2 a (by omega) e3,step_run _ e3 e4,grow (by omega)]
    · simp only [if_neg hp]
      exact done pos acc (by omega)
theorem fields_words (s:ByteArray):(goFieldsP (fun n=>n == 32) s).map (·.data.toList)=words s.data.toList:=by
  unfold goFieldsP spansOfP
  rw [List.map_map]
  have h:=(spans_words s s.size 0 [] (by omega)).1
  rw [List.map_nil,List.nil_append,List.drop_zero] at h
  unfold words
  rw [← h]
  exact List.map_congr_left fun x _=>extract_piece s x
def splitGo (b:UInt8):Bs→Bs→List Bs
  | cur,[]=>[cur]
  | cur,c::r=>if c=b then cur::splitGo b [] r else splitGo b (cur++[c]) r
def splitC (b:UInt8) (s:Bs):List Bs:=splitGo b [] s
theorem splitGo_pre (b:UInt8):∀ (s cur:Bs),splitGo b cur s=(match splitGo b [] s with | []=>[] | x::r=>(cur++x)::r)
  | [],cur=>by simp [splitGo]
  | c::r,cur=>by
    rw [splitGo,splitGo]
    split
    · simp
    · rw [splitGo_pre b r (cur++[c]),splitGo_pre b r ([]++[c])]
      cases splitGo b [] r <;> simp
theorem splitGo_ne (b:UInt8):∀ (s cur:Bs),splitGo b cur s≠[]
  | [],cur=>by simp [splitGo]
  | c::r,cur=>by
    rw [splitGo];split
    · exact List.cons_ne_nil _ _
    · exact splitGo_ne b r _
theorem splitK_go (b:UInt8):∀ (s:Bs) (k:Nat),s.count b≤k→splitK [b] 0 k s=splitC b s
  | [],0,_=>rfl
  | [],k+1,_=>rfl
  | c::r,k,hk=>by
    have hi:index (c::r) [b]=if c=b then 0 else if index r [b] == -1 then -1 else index r [b]+1:=by
      rw [index]
      by_cases h:c=b
      · subst h;rw [if_pos rfl,if_pos (by simp [List.isPrefixOf])]
      · rw [if_neg h,if_neg (by simp [List.isPrefixOf];exact fun e=>h e.symm)]
    by_cases h:c=b
    · subst h
      rw [List.count_cons_self] at hk
      obtain ⟨k,rfl⟩:∃ j,k=j+1:=⟨k-1,by omega⟩
      rw [splitK,hi,if_pos rfl]
      show []::splitK [c] 0 k r=_
      rw [splitK_go c r k (by omega)]
      unfold splitC
      rw [splitGo,if_pos rfl]
    · rw [List.count_cons_of_ne (by simpa using h)] at hk
      unfold splitC
      rw [splitGo,if_neg h,splitGo_pre]
      have ih:=splitK_go b r k hk
      unfold splitC at ih
      rw [← ih]
      cases k with
      | zero=>rfl
      | succ k =>
        rw [splitK,splitK,hi,if_neg h]
        by_cases hm:index r [b] = -1
        · simp [hm]
        · have h0:=index_ge r [b]
          have e1:(index r [b] == -1)=false:=by simpa using hm
          have e2:(index r [b]+1 == -1)=false:=by simp;omega
          have e3:(index r [b]+1).toNat=(index r [b]).toNat+1:=by omega
          rw [e1]
          simp only [Bool.false_eq_true,if_false,e2,e3]
          simp
theorem split_lib (s:ByteArray) (b:UInt8):(splitB ⟨#[b]⟩ 0 (countB s ⟨#[b]⟩) s).map (·.data.toList)=splitC b s.data.toList:=by
  rw [splitB_data]
  refine splitK_go b _ _ ?_
  have:countB s ⟨#[b]⟩=count s.data.toList [b]:=rfl
  rw [this,count_one];exact Nat.le_refl _
end R44
end Go.Proofs.YtggobegaiijhhaaGreatDoor
namespace Go.Proofs.YtggobegaiijhhaaGreatDoor
open Go.GV
namespace R44
theorem dec_lenI (n:Int) (h:n≤9223372036854775807):(Lib.decDigits n.toNat).length≤19:=dec_len19 (by omega)
theorem wordsGo_len:∀ (l cur:Bytes),∀ x∈wordsGo cur l,x.length≤cur.length+l.length
  | [],cur,x,hx=>by
    rw [wordsGo] at hx;split at hx
    · cases hx
    · rw [List.mem_singleton.1 hx];simp
  | c::r,cur,x,hx=>by
    rw [wordsGo] at hx;rw [List.length_cons]
    split at hx
    · split at hx
      · have:=wordsGo_len r [] x hx;simp at this;omega
      · rcases List.mem_cons.1 hx with rfl | hx
        · omega
        · have:=wordsGo_len r [] x hx;simp at this;omega
    · have:=wordsGo_len r _ x hx;simp at this;omega
theorem words_len (s:Bytes) (i:Nat):((words s).getD i []).length≤s.length:=by
  by_cases h:i<(words s).length
  · have:=wordsGo_len s [] _ (getD_mem (d:=[]) h);rw [List.length_nil,Nat.zero_add] at this;exact this
  · rw [List.getD_eq_getElem?_getD,List.getElem?_eq_none (by omega)];exact Nat.zero_le _
theorem wordsGo_count:∀ (l cur:Bytes),(wordsGo cur l).length≤l.length+1
  | [],cur=>by rw [wordsGo];split <;> simp
  | c::r,cur=>by
    rw [wordsGo,List.length_cons]
    split
    · split
      · have:=wordsGo_count r [];omega
      · rw [List.length_cons];have:=wordsGo_count r [];omega
    · have:=wordsGo_count r (cur++[c]);omega
theorem words_count (s:Bytes):(words s).length≤s.length+1:=wordsGo_count s []
theorem rw_bd {W:List Bytes} {s:Bytes} (h:W=words s):W.length≤s.length+1∧(W.getD 0 []).length≤s.length∧(W.getD 1 []).length≤s.length∧((W.drop 2).getD 0 []).length≤s.length∧(((W.drop 2).drop 1).getD 0 []).length≤s.length:=by
  subst h
  have e:∀ k,((words s).drop k).getD 0 []=(words s).getD k []:=fun k=>by rw [List.getD_eq_getElem?_getD,List.getElem?_drop,List.getD_eq_getElem?_getD];rfl
  rw [List.drop_drop,e,e]
  exact ⟨words_count s,words_len s 0,words_len s 1,words_len s 2,words_len s (2+1)⟩
theorem splitGo_len (b:UInt8):∀ (l cur:Bytes),∀ x∈splitGo b cur l,x.length≤cur.length+l.length
  | [],cur,x,hx=>by rw [splitGo] at hx;rw [List.mem_singleton.1 hx];simp
  | c::r,cur,x,hx=>by
    rw [splitGo] at hx;rw [List.length_cons]
    split at hx
    · rcases List.mem_cons.1 hx with rfl | hx
      · omega
      · have:=splitGo_len b r [] x hx;simp at this;omega
    · have:=splitGo_len b r _ x hx;simp at this;omega
theorem splitC_len (b:UInt8) (s:Bytes) (i:Nat):((splitC b s).getD i []).length≤s.length:=by
  by_cases h:i<(splitC b s).length
  · have:=splitGo_len b s [] _ (getD_mem (d:=[]) h);rw [List.length_nil,Nat.zero_add] at this;exact this
  · rw [List.getD_eq_getElem?_getD,List.getElem?_eq_none (by omega)];exact Nat.zero_le _
theorem splitGo_count (b:UInt8):∀ (l cur:Bytes),(splitGo b cur l).length≤l.length+1
  | [],cur=>by rw [splitGo];simp
  | c::r,cur=>by
    rw [splitGo,List.length_cons]
    split
    · rw [List.length_cons];have:=splitGo_count b r [];omega
    · have:=splitGo_count b r (cur++[c]);omega
theorem splitC_count (b:UInt8) (s:Bytes):(splitC b s).length≤s.length+1:=splitGo_count b s []
def SplJ (b:UInt8) (s:Bytes) (k:Nat) (out:List Bytes):Prop:=∃ pre cur,out=pre++[cur]∧splitC b s=pre++splitGo b cur (s.drop k)
section
variable {b:UInt8} {s:Bytes} {k:Nat} {out:List Bytes}
theorem SplJ.start:SplJ b s 0 [[]]:=⟨[],[],rfl,rfl⟩
theorem SplJ.ne (h:SplJ b s k out):0<out.length:=by obtain ⟨pre,cur,rfl,_⟩:=h;simp
theorem SplJ.cut (h:SplJ b s k out) (hk:k<s.length) (hb:s.getD k 0=b):SplJ b s (k+1) (out++[[]]):=by
  obtain ⟨pre,cur,rfl,h2⟩:=h
  refine ⟨pre++[cur],[],rfl,?_⟩
  rw [h2,drop_cons (d:=0) hk,splitGo,if_pos hb];simp
theorem SplJ.add (h:SplJ b s k out) (hk:k<s.length) (hb:¬ s.getD k 0=b):SplJ b s (k+1) (out.set (out.length-1) (out.getD (out.length-1) []++sub s k (k+1))):=by
  obtain ⟨pre,cur,rfl,h2⟩:=h
  refine ⟨pre,cur++[s.getD k 0],?_,?_⟩
  · rw [List.length_append,List.length_singleton,Nat.add_sub_cancel,List.set_append_right _ _ (Nat.le_refl _),Nat.sub_self,List.getD_eq_getElem?_getD,List.getElem?_append_right (Nat.le_refl _),Nat.sub_self,sub_snoc (Nat.le_refl k) hk,sub_none];rfl
  · rw [h2,drop_cons (d:=0) hk,splitGo,if_neg hb]
theorem SplJ.done (h:SplJ b s k out) (hk:s.length≤k):out=splitC b s:=by
  obtain ⟨pre,cur,rfl,h2⟩:=h
  rw [h2,List.drop_of_length_le hk];rfl
theorem SplJ.short (h:SplJ b s k out) (i:Nat):(out.getD i []).length≤s.length:=by
  obtain ⟨pre,cur,rfl,h2⟩:=h
  have key:∀ x∈pre++[cur],x.length≤s.length:=by
    intro x hx
    rcases List.mem_append.1 hx with hx | hx
    · have:=splitGo_len b s [] x (by show x∈splitC b s;rw [h2];exact List.mem_append_left _ hx)
      simpa using this
    · rw [List.mem_singleton.1 hx]
      have h3:(splitGo b cur (s.drop k)).getD 0 []∈splitC b s:=by
        rw [h2]
        exact List.mem_append_right _ (getD_mem (List.length_pos_iff.2 (splitGo_ne b _ _)))
      have h4:=splitGo_len b s [] _ h3
      have h5:cur.length≤((splitGo b cur (s.drop k)).getD 0 []).length:=by
        rw [splitGo_pre]
        cases hs:splitGo b [] (s.drop k) with
        | nil=>exact absurd hs (splitGo_ne b _ _)
        | cons y r=>simp
      rw [List.length_nil,Nat.zero_add] at h4;omega
  by_cases hi:i<(pre++[cur]).length
  · exact key _ (getD_mem hi)
  · rw [List.getD_eq_getElem?_getD,List.getElem?_eq_none (by omega)];exact Nat.zero_le _
theorem SplJ.few (h:SplJ b s k out):out.length≤s.length+1:=by
  obtain ⟨pre,cur,rfl,h2⟩:=h
  have:=splitC_count b s
  rw [h2,List.length_append] at this
  have:=List.length_pos_iff.2 (splitGo_ne b (s.drop k) cur)
  rw [List.length_append,List.length_singleton];omega
end
def ixFrom:List Bytes→Bytes→Nat→Int
  | [],_,_=>-1
  | x::r,v,k=>if x=v then (k:Int) else ixFrom r v (k+1)
def ixOf (xs:List Bytes) (v:Bytes):Int:=ixFrom xs v 0
theorem ix_go {xs:List Bytes} {v:Bytes} {k:Nat} (hk:k<xs.length) (h:ixFrom (xs.drop k) v k=ixOf xs v) (hn:¬ v=xs.getD k []):ixFrom (xs.drop (k+1)) v (k+1)=ixOf xs v:=by
  rw [← h,drop_cons (d:=[]) hk,ixFrom,if_neg (fun e=>hn e.symm)]
theorem ix_hit {xs:List Bytes} {v:Bytes} {k:Nat} (hk:k<xs.length) (h:ixFrom (xs.drop k) v k=ixOf xs v) (he:v=xs.getD k []):((k:Nat):Int)=ixOf xs v:=by
  rw [← h,drop_cons (d:=[]) hk,ixFrom,if_pos he.symm]
theorem ix_end {xs:List Bytes} {v:Bytes} {k:Nat} (hk:xs.length≤k) (h:ixFrom (xs.drop k) v k=ixOf xs v) : -1=ixOf xs v:=by
  rw [← h,List.drop_of_length_le hk];rfl
theorem ixFrom_bd:∀ (xs:List Bytes) (v:Bytes) (k:Nat),ixFrom xs v k = -1∨((k:Int)≤ixFrom xs v k∧ixFrom xs v k<(k:Int)+xs.length)
  | [],_,_=>.inl rfl
  | x::r,v,k=>by
    rw [ixFrom];split
    · right;rw [List.length_cons];omega
    · rcases ixFrom_bd r v (k+1) with h | h
      · exact .inl h
      · right;rw [List.length_cons];omega
theorem ixOf_bd (xs:List Bytes) (v:Bytes) : -1≤ixOf xs v∧ixOf xs v<xs.length:=by
  have h:=ixFrom_bd xs v 0
  unfold ixOf;omega
abbrev KS:List Bytes:=[[116,101,120,116],[110,117,109,98,101,114],[98,105,110,97,114,121]]
abbrev DS:Bytes:=[100,101,115,99,101,110,100,105,110,103]
def kindOf (R:List Bytes):Int × List Bytes:=if (decide ((0:Int)<((R.length:Nat):Int))&&decide (0≤ixOf KS (R.getD 0 [])))=true then (([0,1,2]:List Int).getD (ixOf KS (R.getD 0 [])).toNat 0,R.drop 1) else (0,R)
def descOf (R:List Bytes):Bool × List Bytes:=if (decide ((0:Int)<((R.length:Nat):Int))&&decide (R.getD 0 []=DS))=true then (true,R.drop 1) else (false,R)
def fieldW (W:List Bytes):Option SortField:=
  if 2≤W.length then
    (match numV (W.getD 0 []),numV (W.getD 1 []) with
     | some a,some n=>if (descOf (kindOf (W.drop 2)).2).2=[] then some ⟨(a:Int),(n:Int),(kindOf (W.drop 2)).1,(descOf (kindOf (W.drop 2)).2).1⟩ else none
     | _,_=>none)
  else none
def fieldsW:List Bytes→Option (List SortField)
  | []=>some []
  | p::r=>match fieldW (words p) with
    | none=>none
    | some f=>(fieldsW r).map fun l=>f::l
def parseV (s:Bytes):List SortField × Int:=if words s=[] then ([],0) else match fieldsW (splitC 44 s) with
  | none=>([],3)
  | some l=>if valid l=true then (l,0) else ([],1)
def FldJ (ps:List Bytes) (k:Nat) (out:List SortField):Prop:=fieldsW ps=(fieldsW (ps.drop k)).map fun l=>out++l
section
variable {ps:List Bytes} {k:Nat} {out:List SortField} {s:Bytes}
theorem FldJ.start:FldJ ps 0 []:=by
  show fieldsW ps=(fieldsW ps).map fun l=>[]++l
  cases fieldsW ps <;> rfl
theorem FldJ.add (h:FldJ ps k out) (hk:k<ps.length) {f:SortField} (hf:fieldW (words (ps.getD k []))=some f):FldJ ps (k+1) (out++[f]):=by
  unfold FldJ at *
  rw [h,drop_cons (d:=[]) hk,fieldsW,hf]
  cases fieldsW (ps.drop (k+1)) <;> simp
theorem FldJ.bad (h:FldJ (splitC 44 s) k out) (hs:words s≠[]) (hk:k<(splitC 44 s).length) (hf:fieldW (words ((splitC 44 s).getD k []))=none):(([]:List SortField),(3:Int))=parseV s:=by
  unfold FldJ at h
  rw [drop_cons (d:=[]) hk,fieldsW,hf] at h
  unfold parseV;rw [if_neg hs,h];rfl
theorem FldJ.done (h:FldJ (splitC 44 s) k out) (hs:words s≠[]) (hk:(splitC 44 s).length≤k):parseV s=if valid out=true then (out,0) else ([],1):=by
  unfold FldJ at h
  rw [List.drop_of_length_le hk] at h
  unfold parseV;rw [if_neg hs,h]
  simp [fieldsW]
theorem FldJ.yes (h:FldJ (splitC 44 s) k out) (hs:words s≠[]) (hk:(splitC 44 s).length≤k) (hv:valid out=true):(out,(0:Int))=parseV s:=by rw [h.done hs hk,if_pos hv]
theorem FldJ.no (h:FldJ (splitC 44 s) k out) (hs:words s≠[]) (hk:(splitC 44 s).length≤k) (hv:valid out=false):(([]:List SortField),(1:Int))=parseV s:=by rw [h.done hs hk,if_neg (by rw [hv];decide)]
theorem parse_none (hs:words s=[]):(([]:List SortField),(0:Int))=parseV s:=by unfold parseV;rw [if_pos hs]
variable {W:List Bytes} {n1 n2:Int} {o1 o2:Bool}
theorem fw_short (h:¬ 2≤W.length):fieldW W=none:=by unfold fieldW;rw [if_neg h]
theorem fw_n1 (h:o1=false) (s1:SmallJ (W.getD 0 []) n1 o1):fieldW W=none:=by
  unfold fieldW;split
  · rw [s1.2 h]
  · rfl
theorem fw_n2 (h:o2=false) (s2:SmallJ (W.getD 1 []) n2 o2):fieldW W=none:=by
  unfold fieldW;split
  · rw [s2.2 h];cases numV (W.getD 0 []) <;> rfl
  · rfl
theorem fw_rest {kd:Int} {de:Bool} {R1 R2:List Bytes} (hk:kindOf (W.drop 2)=(kd,R1)) (hd:descOf R1=(de,R2)) (he:R2≠[]):fieldW W=none:=by
  unfold fieldW;split
  · rw [hk];simp only;rw [hd];simp only
    cases numV (W.getD 0 []) <;> cases numV (W.getD 1 []) <;> simp only
    rw [if_neg he]
  · rfl
theorem fw_yes {kd:Int} {de:Bool} {R1 R2:List Bytes} (h:2≤W.length) (h1:o1=true) (s1:SmallJ (W.getD 0 []) n1 o1) (h2:o2=true) (s2:SmallJ (W.getD 1 []) n2 o2) (hk:kindOf (W.drop 2)=(kd,R1)) (hd:descOf R1=(de,R2)) (he:R2=[]):fieldW W=some ⟨n1,n2,kd,de⟩:=by
  obtain ⟨e1,p1,_⟩:=s1.1 h1
  obtain ⟨e2,p2,_⟩:=s2.1 h2
  unfold fieldW
  rw [if_pos h,e1,e2,hk];simp only
  rw [hd];simp only
  rw [if_pos he,Int.toNat_of_nonneg p1,Int.toNat_of_nonneg p2]
variable {R:List Bytes}
theorem kind_t (h:(decide ((0:Int)<((R.length:Nat):Int))&&decide (0≤ixOf KS (R.getD 0 [])))=true):kindOf R=(([0,1,2]:List Int).getD (ixOf KS (R.getD 0 [])).toNat 0,R.drop 1):=if_pos h
theorem kind_f (h:(decide ((0:Int)<((R.length:Nat):Int))&&decide (0≤ixOf KS (R.getD 0 [])))=false):kindOf R=(0,R):=if_neg (by rw [h];decide)
theorem desc_t (h:(decide ((0:Int)<((R.length:Nat):Int))&&decide (R.getD 0 []=DS))=true):descOf R=(true,R.drop 1):=if_pos h
theorem desc_f (h:(decide ((0:Int)<((R.length:Nat):Int))&&decide (R.getD 0 []=DS))=false):descOf R=(false,R):=if_neg (by rw [h];decide)
end
end R44
end Go.Proofs.YtggobegaiijhhaaGreatDoor
namespace Go.Proofs.YtggobegaiijhhaaGreatDoor
open Go.GV
namespace R44
def kindT (k:Int):Bytes:=if k=1 then [32,110,117,109,98,101,114] else if k=2 then [32,98,105,110,97,114,121] else []
abbrev desT:Bytes:=[32,100,101,115,99,101,110,100,105,110,103]
def fmt1 (f:SortField):Bytes:=(((Lib.decDigits f.At.toNat++[32])++Lib.decDigits f.Length.toNat)++kindT f.Kind)++(if f.Descending=true then desT else [])
def fmtV (l:List SortField):Bytes:=if valid l=true then Lib.join (l.map fmt1) [44,32] else []
section
variable {l:List SortField} {k:Nat} {s x:Bytes}
end
section
variable {R:List Bytes}
end
theorem fw_of {W:List Bytes} {p:Bytes} {x:Option SortField} (hw:W=words p) (h:fieldW W=x):fieldW (words p)=x:=by rw [← hw];exact h
theorem ne_of {W:List Bytes} {s:Bytes} (hw:W=words s) (h:W.length≠0):words s≠[]:=fun e=>by rw [hw,e] at h;exact h rfl
theorem eq_of {W:List Bytes} {s:Bytes} (hw:W=words s) (h:W.length=0):words s=[]:=by rw [← hw];exact List.length_eq_zero_iff.1 h
section
variable {W R1 R2:List Bytes} {n1 n2 kd:Int} {o1 o2 de:Bool}
theorem fw_go (h:2≤W.length) (s1:SmallJ (W.getD 0 []) n1 o1) (h1:o1=true) (s2:SmallJ (W.getD 1 []) n2 o2) (h2:o2=true) (hk:kindOf (W.drop 2)=(kd,R1)) (hd:descOf R1=(de,R2)) (he:R2.length=0):fieldW W=some ⟨n1,n2,kd,de⟩:=fw_yes h h1 s1 h2 s2 hk hd (List.length_eq_zero_iff.1 he)
theorem fw_no2 (s1:SmallJ (W.getD 0 []) n1 o1) (s2:SmallJ (W.getD 1 []) n2 o2) (h:((!o1)||(!o2))=true):fieldW W=none:=by
  cases h1:o1 with
  | false=>exact fw_n1 h1 s1
  | true=>cases h2:o2 with
    | false=>exact fw_n2 h2 s2
    | true=>rw [h1,h2] at h;cases h
theorem fw_no3 (s1:SmallJ (W.getD 0 []) n1 o1) (s2:SmallJ (W.getD 1 []) n2 o2) (hk:kindOf (W.drop 2)=(kd,R1)) (hd:descOf R1=(de,R2)) (h:(((!o1)||(!o2))||decide ((0:Int)<((R2.length:Nat):Int)))=true):fieldW W=none:=by
  rcases Bool.or_eq_true_iff.1 h with h | h
  · exact fw_no2 s1 s2 h
  · exact fw_rest hk hd fun e=>by rw [e] at h;simp at h
end
end R44
end Go.Proofs.YtggobegaiijhhaaGreatDoor
namespace Go.Proofs.YtggobegaiijhhaaGreatDoor
open Go.GV
namespace R44
abbrev ONE:List SortField:=[SortField.mk 0 1 0 false]
abbrev TWO:List SortField:=[SortField.mk 0 1 0 true]
theorem aw_cmp:cmpV ONE [97] [98] = -1:=by decide
end R44
end Go.Proofs.YtggobegaiijhhaaGreatDoor
namespace Go.GV
open Go.Lib
end Go.GV
namespace Go.Proofs.YtggobegaiijhhaaGreatDoor
open Go.GV
namespace R44
theorem fields_cnt:∀ {ps:List Bytes} {r:List SortField},fieldsW ps=some r→r.length=ps.length
  | [],r,h=>by cases h;rfl
  | p::t,r,h=>by
    rw [fieldsW] at h
    cases hf:fieldW (words p) with
    | none=>rw [hf] at h;cases h
    | some f =>
      rw [hf] at h
      cases ht:fieldsW t with
      | none=>rw [ht] at h;cases h
      | some q=>rw [ht] at h;cases h;simp only [List.length_cons,fields_cnt ht]
theorem parse_cnt (s:Bytes):(parseV s).1.length≤s.length+1:=by
  unfold parseV
  split
  · exact Nat.zero_le _
  · cases hf:fieldsW (splitC 44 s) with
    | none=>exact Nat.zero_le _
    | some r =>
      have h1:=fields_cnt hf
      have h2:=splitC_count 44 s
      show (if valid r=true then (r,(0:Int)) else ([],1)).1.length≤_
      split
      · show r.length≤_;omega
      · exact Nat.zero_le _
end R44
end Go.Proofs.YtggobegaiijhhaaGreatDoor
namespace Go.Proofs.YtggobegaiijhhaaGreatDoor
open Go.GV
namespace R45
theorem wrj_w {b:Binding} {l:List Bytes} {ch:List Change} (h:WrJ b l ch):ch.length≤300 ∧ ∀ c∈ch,ChB b c:=⟨h.1,h.2.1⟩
theorem ln_one {ln:List Bytes} {s:Bytes} (h:ln=[s]):ln.length=1:=by rw [h];rfl
theorem each_snoc {l:List Bytes} {s:Bytes} {n:Nat} (h:∀ i,(l.getD i []).length≤n) (hs:s.length≤n) (i:Nat):((l++[s]).getD i []).length≤n:=by
  rcases Nat.lt_trichotomy i l.length with hi | hi | hi
  · rw [List.getD_eq_getElem?_getD,List.getElem?_append_left hi,← List.getD_eq_getElem?_getD];exact h i
  · subst hi;simpa [List.getD_eq_getElem?_getD] using hs
  · rw [List.getD_eq_getElem?_getD,List.getElem?_eq_none (by rw [List.length_append];simp;omega)];simp
theorem NumJ.rg {s:Bytes} {most n:Int} {ok:Bool} (h:NumJ s most n ok) (hk:ok=true):0≤n∧n≤most:=h.bd.1 hk
def MrP (parm:Bytes) (l:List SortField) (ok:Bool):Prop:=(ok=true→R44.parseV parm=(l,0))∧(ok=false→(R44.parseV parm).2≠0)∧l.length≤parm.length+1
theorem mrP {parm:Bytes} {l:List SortField} {e:Int} (h:(l,e)=R44.parseV parm):MrP parm l (decide (e=0)):=by
  refine ⟨fun hk=>?_,fun hk=>?_,?_⟩
  · rw [← h,of_decide_eq_true hk]
  · rw [← h];exact of_decide_eq_false hk
  · have:=R44.parse_cnt parm;rw [← h] at this;exact this
def parmS (s:Bytes):Option (List SortField × Int × Int):=match cutB 47 s with
  | none=>if (R44.parseV s).2=0 then some ((R44.parseV s).1,16,4) else none
  | some (a,b)=>match R44.words b with
    | [x,y]=>match numV x 1024,numV y 16 with
      | some m,some f=>if (R44.parseV a).2=0∧1≤m∧2≤f then some ((R44.parseV a).1,m,f) else none
      | _,_=>none
    | _=>none
def SrP (parm:Bytes) (l:List SortField) (m fan:Int) (ok:Bool):Prop:=(ok=true→parmS parm=some (l,m,fan))∧(ok=false→parmS parm=none)∧l.length≤parm.length+1
def Adj (fl:List SortField) (rs:List Bytes):Prop:=∀ j,j+1<rs.length→¬ R44.cmpV fl (rs.getD (j+1) []) (rs.getD j [])<0
def AdJ (fl:List SortField) (rs:List Bytes) (i:Int):Prop:=∀ j:Nat,i≤j→j+1<rs.length→¬ R44.cmpV fl (rs.getD (j+1) []) (rs.getD j [])<0
theorem adj_t {fl:List SortField} {rs:List Bytes} {z:Bool} (h:(z=true→Adj fl rs)∧(z=false→¬ Adj fl rs)) (hz:z=true):Adj fl rs:=h.1 hz
theorem AdJ.start {fl:List SortField} {rs:List Bytes} : AdJ fl rs ((rs.length:Int)-1):=fun j h1 h2=>by omega
theorem AdJ.step {fl:List SortField} {rs:List Bytes} {i:Int} (h:AdJ fl rs i) (hi:0<i) (hc:¬ R44.cmpV fl (rs.getD i.toNat []) (rs.getD (i-1).toNat [])<0):AdJ fl rs (i-1):=fun j h1 h2=>by
  by_cases hj:i≤j
  · exact h j hj h2
  · have e1:i.toNat=j+1:=by omega
    have e2:(i-1).toNat=j:=by omega
    rw [e1,e2] at hc;exact hc
theorem AdJ.done {fl:List SortField} {rs:List Bytes} {i:Int} (h:AdJ fl rs i) (hi:¬ 0<i):Adj fl rs:=fun j h2=>h j (by omega) h2
theorem AdJ.bad {fl:List SortField} {rs:List Bytes} {i:Int} (hi:0<i) (hl:i<rs.length) (hc:R44.cmpV fl (rs.getD i.toNat []) (rs.getD (i-1).toNat [])<0):¬ Adj fl rs:=fun h=>by
  have:=h (i-1).toNat (by omega)
  rw [show (i-1).toNat+1=i.toNat by omega] at this
  exact this hc
theorem srP_none {s a:Bytes} {l:List SortField} {e:Int} {o:Bool} (h2:o=false→cutB 47 s=none) (ho:o=false) (h3:o=false→a=s) (hp:(l,e)=R44.parseV a):SrP s l 16 4 (decide (e=0)):=by
  have ha:=h3 ho
  subst ha
  refine ⟨fun hk=>?_,fun hk=>?_,?_⟩
  · unfold parmS;rw [h2 ho];simp only [← hp];rw [if_pos (of_decide_eq_true hk)]
  · unfold parmS;rw [h2 ho];simp only [← hp];rw [if_neg (of_decide_eq_false hk)]
  · have:=R44.parse_cnt a;rw [← hp] at this;exact this
theorem srP_two {s a b:Bytes} {l:List SortField} {e m fan:Int} {o z1 z2:Bool} (h1:o=true→cutB 47 s=some (a,b)) (ho:o=true) (hl:a.length≤s.length) (hp:(l,e)=R44.parseV a) (hw:(R44.words b).length=2) (hm:NumJ ((R44.words b).getD 0 []) 1024 m z1) (hf:NumJ ((R44.words b).getD 1 []) 16 fan z2):SrP s l m fan ((((decide (e=0)&&z1)&&z2)&&decide (1≤m))&&decide (2≤fan)):=by
  obtain ⟨x,y,hxy⟩:∃ x y,R44.words b=[x,y]:=by
    match hq:R44.words b,hw with
    | [x,y],_=>exact ⟨x,y,rfl⟩
  rw [hxy] at hm hf
  have hm':NumJ x 1024 m z1:=hm
  have hf':NumJ y 16 fan z2:=hf
  have hpe:(R44.parseV a).1=l∧(R44.parseV a).2=e:=by rw [← hp];exact ⟨rfl,rfl⟩
  refine ⟨fun hk=>?_,fun hk=>?_,?_⟩
  · simp only [Bool.and_eq_true,decide_eq_true_eq] at hk
    obtain ⟨⟨⟨⟨k1,k2⟩,k3⟩,k4⟩,k5⟩:=hk
    unfold parmS
    simp only [h1 ho,hxy,hm'.yes k2,hf'.yes k3,hpe.1,hpe.2]
    exact if_pos ⟨k1,k4,k5⟩
  · unfold parmS
    simp only [h1 ho,hxy]
    cases z1 with
    | false=>simp only [hm'.no rfl]
    | true =>
      cases z2 with
      | false=>simp only [hm'.yes rfl,hf'.no rfl]
      | true =>
        simp only [hm'.yes rfl,hf'.yes rfl,hpe.1,hpe.2]
        refine if_neg fun hc=>?_
        simp [hc.1,hc.2.1,hc.2.2] at hk
  · have:=R44.parse_cnt a;rw [hpe.1] at this;omega
theorem srP_bad {s a b:Bytes} {l:List SortField} {e m fan:Int} {o:Bool} (h1:o=true→cutB 47 s=some (a,b)) (ho:o=true) (hl:a.length≤s.length) (hp:(l,e)=R44.parseV a) (hw:(R44.words b).length≠2):SrP s l m fan false:=by
  refine ⟨fun hk=>(by cases hk),fun _=>?_,?_⟩
  · unfold parmS
    simp only [h1 ho]
    split
    · rename_i x y hxy;rw [hxy] at hw;exact absurd rfl hw
    · rfl
  · have:=R44.parse_cnt a;rw [← hp] at this;simp only at this;omega
end R45
end Go.Proofs.YtggobegaiijhhaaGreatDoor
