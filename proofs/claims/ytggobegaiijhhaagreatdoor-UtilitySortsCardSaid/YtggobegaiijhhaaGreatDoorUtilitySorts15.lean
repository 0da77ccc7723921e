/- Pl44b, Hp44, Pl44c, Pl44d in one text. -/
import Derived.Test.YtggobegaiijhhaaGreatDoorUtilitySorts14
import Derived.Test.YtggobegaiijhhaaGreatDoorUtilitySorts4
import Derived.Test.YtggobegaiijhhaaGreatDoorUtilitySorts7
set_option linter.unusedVariables false
set_option linter.unusedSimpArgs false
namespace Go.Proofs.YtggobegaiijhhaaGreatDoor
open Go.GV
namespace R44
theorem fld_len (s:Bytes) (f:SortField):(fld s f).length=f.Length.toNat:=by unfold fld;simp
theorem rep_one (n:Nat):rep [32] n=List.replicate n 32:=by
  induction n with
  | zero=>rfl
  | succ n ih=>rw [List.replicate_succ,rep,ih];rfl
theorem sub_len (s:Bytes) (i j:Nat) (h:j≤s.length):(sub s i j).length=j-i:=by unfold sub;simp;omega
theorem fld_none {s:Bytes} {f:SortField} (h:(s.length:Int)≤f.At):[]++rep [32] (f.Length-0).toNat=fld s f:=by
  rw [rep_one,List.nil_append]
  unfold fld
  apply List.ext_getElem
  · simp
  · intro i h1 h2
    simp at h1 h2 ⊢
    rw [List.getElem?_eq_none (by omega)];rfl
theorem fld_some {s:Bytes} {f:SortField} {j:Nat} (h0:0≤f.At) (h1:1≤f.Length) (h:f.At<(s.length:Int)) (hj:(j:Int)=min (s.length:Int) (f.At+f.Length)):sub s f.At.toNat j++rep [32] (f.Length-((sub s f.At.toNat j).length:Nat)).toNat=fld s f:=by
  have hjl:j≤s.length:=by omega
  rw [rep_one,sub_len s _ _ hjl]
  unfold fld sub
  apply List.ext_getElem
  · simp;omega
  · intro i h2 h3
    simp at h3
    rw [List.getElem_append]
    split
    · rename_i h4
      simp at h4
      simp
      rw [List.getElem?_eq_getElem (by omega)];rfl
    · rename_i h4
      simp at h4
      simp
      rw [List.getElem?_eq_none (by omega)];rfl
def fldN (s:Bytes) (a k:Nat):Bytes:=(List.range k).map fun j=>s.getD (a+j) 32
theorem drop_cons {α:Type} {l:List α} {k:Nat} {d:α} (h:k<l.length):l.drop k=l.getD k d::l.drop (k+1):=by
  rw [List.drop_eq_getElem_cons h,List.getD_eq_getElem?_getD,List.getElem?_eq_getElem h];rfl
theorem num_step {l:Bytes} {k:Nat} {n:Int} (hk:k<l.length) (h1:48≤(l.getD k 0).toNat) (h2:(l.getD k 0).toNat≤57):num (l.drop k) n=num (l.drop (k+1)) (10*n+(((l.getD k 0).toNat:Int)-48)):=by
  rw [drop_cons (d:=0) hk,num,if_pos ⟨h1,h2⟩]
theorem num_bad {l:Bytes} {k:Nat} {n:Int} (hk:k<l.length) (h:¬ (48≤(l.getD k 0).toNat∧(l.getD k 0).toNat≤57)):num (l.drop k) n=none:=by
  rw [drop_cons (d:=0) hk,num,if_neg h]
theorem num_end {l:Bytes} {k:Nat} {n:Int} (hk:l.length≤k):num (l.drop k) n=some n:=by rw [List.drop_of_length_le hk];rfl
theorem pow_step {n:Int} {k:Nat} {c:UInt8} (h0:0≤n) (h:n<10 ^ k) (h1:48≤c.toNat) (h2:c.toNat≤57):0≤10*n+((c.toNat:Int)-48)∧10*n+((c.toNat:Int)-48)<10 ^ (k+1):=by
  rw [Int.pow_succ];omega
theorem pow_le {k:Nat} (h:k≤18):(10:Int) ^ k≤1000000000000000000:=by
  have:(10:Nat) ^ k≤10 ^ 18:=Nat.pow_le_pow_right (by decide) h
  have h2:((10 ^ k:Nat):Int)≤((10 ^ 18:Nat):Int):=by exact_mod_cast this
  simpa using h2
theorem sub48 {c:UInt8} (h:48≤c.toNat):((c-48).toNat:Int)=(c.toNat:Int)-48:=by
  rw [UInt8.toNat_sub_of_le _ _ (by rw [UInt8.le_iff_toNat_le];exact h)]
  show ((c.toNat-48:Nat):Int)=_
  omega
def isDig (c:UInt8):Bool:=decide (48≤c.toNat)&&decide (c.toNat≤57)
def val (l:Bytes):Int:=l.foldl (fun n c=>10*n+((c.toNat:Int)-48)) 0
theorem num_val:∀ (l:Bytes) (n:Int),(∀ c∈l,isDig c=true)→num l n=some (l.foldl (fun n c=>10*n+((c.toNat:Int)-48)) n)
  | [],_,_=>rfl
  | c::l,n,h=>by
    have h1:=h c List.mem_cons_self
    unfold isDig at h1
    simp only [Bool.and_eq_true,decide_eq_true_eq] at h1
    rw [num,if_pos h1,num_val l _ fun d hd=>h d (List.mem_cons_of_mem _ hd)];rfl
theorem num_all:∀ (l:Bytes) (n:Int),(num l n).isSome=true → ∀ c∈l,isDig c=true
  | [],_,_,_,h=>by cases h
  | d::l,n,h,c,hc=>by
    rw [num] at h
    split at h
    · rename_i hd
      rcases List.mem_cons.1 hc with rfl | hc
      · unfold isDig;simp only [Bool.and_eq_true,decide_eq_true_eq];exact hd
      · exact num_all l _ h c hc
    · cases h
theorem trimL_len (s:Bytes):(trimL s).length≤s.length:=(List.dropWhile_sublist _).length_le
theorem trimR_len (s:Bytes):(trimR s).length≤s.length:=by
  unfold trimR;rw [List.length_reverse]
  have:=(List.dropWhile_sublist (l:=s.reverse) (· == (32:UInt8))).length_le
  rwa [List.length_reverse] at this
theorem trimR_app {l m:Bytes} (hm:∀ c∈m,c=32):trimR (l++m)=trimR l:=by
  unfold trimR
  congr 1
  rw [List.reverse_append]
  have:∀ (x y:Bytes),(∀ c∈x,c=32)→(x++y).dropWhile (· == 32)=y.dropWhile (· == 32):=by
    intro x y hx
    induction x with
    | nil=>rfl
    | cons c x ih =>
      rw [List.cons_append,List.dropWhile_cons,if_pos (by simpa using hx c List.mem_cons_self)]
      exact ih fun d hd=>hx d (List.mem_cons_of_mem _ hd)
  exact this _ _ fun c hc=>hm c (List.mem_reverse.1 hc)
theorem trimR_id {l:Bytes} {c:UInt8} (hc:c≠32):trimR (l++[c])=l++[c]:=by
  unfold trimR
  rw [List.reverse_append]
  show (((c::l.reverse).dropWhile _)).reverse=_
  rw [List.dropWhile_cons,if_neg (by simpa using hc)]
  simp
theorem trimL_all {m:Bytes} : trimL m=[] ↔ ∀ c∈m,c=32:=by
  unfold trimL
  induction m with
  | nil=>simp
  | cons c m ih =>
    rw [List.dropWhile_cons]
    by_cases hc:c=32
    · rw [if_pos (by simpa using hc),ih];simp [hc]
    · rw [if_neg (by simpa using hc)];simp [hc]
theorem take_blank:∀ (l:Bytes),∀ c∈l.takeWhile (· == (32:UInt8)),c=32
  | [],_,h=>by cases h
  | d::l,c,h=>by
    rw [List.takeWhile_cons] at h
    split at h
    · rename_i hd
      rcases List.mem_cons.1 h with rfl | h
      · simpa using hd
      · exact take_blank l c h
    · cases h
theorem trimR_split (l:Bytes):∃ m,l=trimR l++m∧(∀ c∈m,c=32)∧(trimR l=[] ∨ ∃ t c,trimR l=t++[c]∧c≠32):=by
  have h:=List.takeWhile_append_dropWhile (p:=(· == (32:UInt8))) (l:=l.reverse)
  refine ⟨(l.reverse.takeWhile (· == 32)).reverse,?_,?_,?_⟩
  · unfold trimR
    rw [← List.reverse_append,h,List.reverse_reverse]
  · intro c hc
    exact take_blank _ c (List.mem_reverse.1 hc)
  · unfold trimR
    cases hd:l.reverse.dropWhile (· == 32) with
    | nil=>exact .inl rfl
    | cons c t =>
      refine .inr ⟨t.reverse,c,by rw [List.reverse_cons],?_⟩
      have:=List.head_dropWhile_not (p:=(· == (32:UInt8))) (l:=l.reverse) (by rw [hd];simp)
      simp only [hd,List.head_cons] at this
      simpa using this
theorem dec_pos {u D r:Bytes} (hD:∀ c∈D,isDig c=true) (hr:∀ c,r.head? = some c→isDig c=false) (hu:u=D++r) (hn:D≠[]):(if trimR u=[] then none else num (trimR u) 0)=if trimL r=[] then some (val D) else none:=by
  have hd32:∀ c:UInt8,isDig c=true→c≠32:=by intro c hc e;subst e;revert hc;decide
  subst hu
  by_cases hb:trimL r=[]
  · rw [if_pos hb,trimR_app (trimL_all.1 hb)]
    obtain ⟨t,c,rfl⟩:∃ t c,D=t++[c]:=⟨D.dropLast,D.getLast hn,(List.dropLast_concat_getLast hn).symm⟩
    rw [trimR_id (hd32 c (hD c (by simp))),if_neg (by simp),num_val _ _ hD];rfl
  · rw [if_neg hb]
    obtain ⟨m,h1,h2,h3⟩:=trimR_split (D++r)
    split
    · rfl
    · -- what is left has a byte behind the digits that is none
      cases hx:num (trimR (D++r)) 0 with
      | none=>rfl
      | some x =>
        exfalso
        have hall:=num_all _ _ (by rw [hx];rfl)
        have hlen:¬ (trimR (D++r)).length≤D.length:=fun hle=>by
          refine hb (trimL_all.2 fun c hc=>h2 c ?_)
          have e:r=(D++r).drop D.length:=by simp
          rw [e,h1,List.drop_append] at hc
          rcases List.mem_append.1 hc with hc | hc
          · rw [List.drop_of_length_le hle] at hc;cases hc
          · exact List.mem_of_mem_drop hc
        cases hrr:r with
        | nil=>rw [hrr] at hb;exact hb rfl
        | cons c t =>
          have hc0:=hr c (by rw [hrr];rfl)
          have hmem:c∈trimR (D++r):=by
            have e1:(D++r)[D.length]? = some c:=by rw [hrr];simp
            rw [h1,List.getElem?_append_left (by omega)] at e1
            exact List.mem_of_getElem? e1
          have:=hall c hmem
          rw [hc0] at this;cases this
def RefNum (s:Bytes) (n:Int) (ok:Bool):Prop:=ok=(dec s).isSome ∧ ∀ x,dec s=some x→n=x
theorem bin_one (c:UInt8):bin [c]=int8 c:=rfl
theorem bin_snoc {l:Bytes} (h:l≠[]) (c:UInt8):bin (l++[c])=256*bin l+(c.toNat:Int):=by
  unfold bin
  cases l with
  | nil=>exact absurd rfl h
  | cons d t=>simp [List.foldl_append]
theorem bin_bound:∀ (n:Nat) (l:Bytes),l.length=n+1 → -(128*256 ^ n)≤bin l∧bin l<128*256 ^ n
  | 0,l,h=>by
    obtain ⟨c,rfl⟩:=List.length_eq_one_iff.1 h
    rw [bin_one];have:=int8_lt c;simp;omega
  | n+1,l,h=>by
    have hne:l≠[]:=by intro e;subst e;simp at h
    have e:=List.dropLast_concat_getLast hne
    have hl:l.dropLast.length=n+1:=by rw [List.length_dropLast];omega
    have ih:=bin_bound n l.dropLast hl
    rw [← e,bin_snoc (by intro e2;rw [e2] at hl;simp at hl)]
    have:=(l.getLast hne).toNat_lt
    rw [Int.pow_succ]
    omega
theorem bin_small {l:Bytes} (h0:0<l.length) (h:l.length≤7) : -36028797018963968≤bin l∧bin l<36028797018963968:=by
  have hb:=bin_bound (l.length-1) l (by omega)
  have hp:(256:Nat) ^ (l.length-1)≤256 ^ 6:=Nat.pow_le_pow_right (by decide) (by omega)
  have h2:((256 ^ (l.length-1):Nat):Int)≤((256 ^ 6:Nat):Int):=by exact_mod_cast hp
  have h3:((256 ^ (l.length-1):Nat):Int)=(256:Int) ^ (l.length-1):=by simp
  rw [h3] at h2
  have h4:((256 ^ 6:Nat):Int)=281474976710656:=by decide
  omega
theorem take_snoc {α:Type} {l:List α} {k:Nat} {d:α} (h:k<l.length):l.take (k+1)=l.take k++[l.getD k d]:=by
  rw [List.take_succ_eq_append_getElem h,List.getD_eq_getElem?_getD,List.getElem?_eq_getElem h];rfl
theorem bin_step {l:Bytes} {k:Nat} (h0:0<k) (h:k<l.length):bin (l.take (k+1))=256*bin (l.take k)+((l.getD k 0).toNat:Int):=by
  rw [take_snoc (d:=0) h,bin_snoc (by intro e;have:=congrArg List.length e;rw [List.length_take,List.length_nil] at this;omega)]
theorem cmpO_ss {a b:Option Int} (h:a.isSome=true) (h2:b.isSome=true):cmpO a b=cmpI (a.getD 0) (b.getD 0):=by cases a <;> cases b <;> first | cases h;done | cases h2;done | rfl
theorem cmpO_sn {a b:Option Int} (h:a.isSome=true) (h2:b.isSome=false):cmpO a b=1:=by cases a <;> cases b <;> first | cases h;done | cases h2;done | rfl
theorem cmpO_ns {a b:Option Int} (h:a.isSome=false) (h2:b.isSome=true):cmpO a b = -1:=by cases a <;> cases b <;> first | cases h;done | cases h2;done | rfl
theorem cmpO_nn {a b:Option Int} (h:a.isSome=false) (h2:b.isSome=false):cmpO a b=0:=by cases a <;> cases b <;> first | cases h;done | cases h2;done | rfl
theorem getD_pad {l:Bytes} {z k:Nat} (h:k<l.length):(l++List.replicate z (0:UInt8)).getD k 0=l.getD k 0:=by
  rw [List.getD_eq_getElem?_getD,List.getElem?_append_left h,← List.getD_eq_getElem?_getD]
theorem digP {c:UInt8} (h:(decide (c<48)||decide ((57:UInt8)<c))=false):48≤c.toNat∧c.toNat≤57∧((c-48).toNat:Int)=(c.toNat:Int)-48:=by
  simp only [Bool.or_eq_false_iff,decide_eq_false_iff_not,UInt8.lt_iff_toNat_lt,UInt8.reduceToNat] at h
  exact ⟨by omega,by omega,sub48 (by omega)⟩
theorem digN {c:UInt8} (h:(decide (c<48)||decide ((57:UInt8)<c))=true):¬ (48≤c.toNat∧c.toNat≤57):=by
  simp only [Bool.or_eq_true,decide_eq_true_eq,UInt8.lt_iff_toNat_lt,UInt8.reduceToNat] at h
  omega
theorem num_stepP {l:Bytes} {z k:Nat} {n:Int} (hk:k<l.length) (h1:48≤((l++List.replicate z (0:UInt8)).getD k 0).toNat) (h2:((l++List.replicate z (0:UInt8)).getD k 0).toNat≤57):num (l.drop (k+1)) (10*n+(((l++List.replicate z (0:UInt8)).getD k 0-48).toNat:Int))=num (l.drop k) n:=by
  rw [getD_pad hk] at *
  rw [sub48 h1,num_step hk h1 h2]
theorem num_badP {l:Bytes} {z k:Nat} {n m:Int} (h0:num (l.drop k) n=num l m) (hk:k<l.length) (h:¬ (48≤((l++List.replicate z (0:UInt8)).getD k 0).toNat∧((l++List.replicate z (0:UInt8)).getD k 0).toNat≤57)):num l m=none:=by
  rw [getD_pad hk] at h
  rw [← h0,num_bad hk h]
theorem num_endP {l:Bytes} {k:Nat} {n m:Int} (h0:num (l.drop k) n=num l m) (hk:l.length≤k):num l m=some n:=by rw [← h0,num_end hk]
theorem pow_stepP {n:Int} {k:Nat} {c:UInt8} (h0:0≤n) (h:n<10 ^ k) (h1:48≤c.toNat) (h2:c.toNat≤57):0≤10*n+((c-48).toNat:Int)∧10*n+((c-48).toNat:Int)<10 ^ (k+1):=by
  rw [sub48 h1];exact pow_step h0 h h1 h2
theorem bin_stepP {l:Bytes} {z k:Nat} (hk:k<l.length-1) (hl:0<l.length) {n:Int} (h:n=bin (l.take (k+1))):n*2 ^ 8+(((sub l 1 l.length++List.replicate z (0:UInt8)).getD k 0).toNat:Int)=bin (l.take (k+1+1)):=by
  have e:(sub l 1 l.length++List.replicate z (0:UInt8)).getD k 0=l.getD (k+1) 0:=by
    rw [getD_pad (by rw [sub_len _ _ _ (Nat.le_refl _)];omega)]
    unfold sub
    rw [List.take_length,List.getD_eq_getElem?_getD,List.getElem?_drop,List.getD_eq_getElem?_getD,Nat.add_comm 1 k]
  rw [e,bin_step (by omega) (by omega),h]
  omega
theorem pow_or {k:Nat} (h:k≤18):(10:Int) ^ k≤1000000000000000000∧(k=18∨(10:Int) ^ k≤100000000000000000):=by
  refine ⟨pow_le h,?_⟩
  by_cases e:k=18
  · exact .inl e
  · have:(10:Nat) ^ k≤10 ^ 17:=Nat.pow_le_pow_right (by decide) (by omega)
    have h2:((10 ^ k:Nat):Int)≤((10 ^ 17:Nat):Int):=by exact_mod_cast this
    exact .inr (by simpa using h2)
theorem bin_or {s:Bytes} {k:Nat} (h0:0<s.length) (h8:s.length≤8):s.length-1≤k∨(-36028797018963968≤bin (s.take (k+1))∧bin (s.take (k+1))<36028797018963968):=by
  by_cases h:s.length-1≤k
  · exact .inl h
  · exact .inr (bin_small (by rw [List.length_take];omega) (by rw [List.length_take];omega))
theorem bin_first {s:Bytes} (h:0<s.length):int8 (s.getD 0 0)=bin (s.take (0+1)):=by
  cases s with
  | nil=>simp at h
  | cons c t=>rfl
theorem sub_snoc {s:Bytes} {j i:Nat} (hj:j≤i) (hi:i<s.length):sub s j (i+1)=sub s j i++[s.getD i 0]:=by
  unfold sub
  rw [take_snoc (d:=0) hi,List.drop_append_of_le_length (by rw [List.length_take];omega)]
theorem sub_none (s:Bytes) (i:Nat):sub s i i=[]:=by unfold sub;exact List.drop_of_length_le (by rw [List.length_take];omega)
theorem cmpL_step {l:List SortField} {k:Nat} {a b:Bytes} (hk:k<l.length):cmpL (l.drop k) a b=if cmp1 (l.getD k default) a b≠0 then cmp1 (l.getD k default) a b else cmpL (l.drop (k+1)) a b:=by
  rw [drop_cons (d:=default) hk,cmpL]
theorem cmpL_go {l:List SortField} {k:Nat} {a b:Bytes} (hk:k<l.length) (h:cmpL (l.drop k) a b=cmpL l a b) (h0:cmp1 (l.getD k default) a b=0):cmpL (l.drop (k+1)) a b=cmpL l a b:=by
  rw [← h,cmpL_step hk,if_neg (by omega)]
theorem cmpL_hit {l:List SortField} {k:Nat} {a b:Bytes} (hk:k<l.length) (h:cmpL (l.drop k) a b=cmpL l a b) (h0:cmp1 (l.getD k default) a b≠0):cmp1 (l.getD k default) a b=cmpL l a b:=by
  rw [← h,cmpL_step hk,if_pos h0]
theorem cmpL_end {l:List SortField} {k:Nat} {a b:Bytes} (hk:l.length≤k) (h:cmpL (l.drop k) a b=cmpL l a b):0=cmpL l a b:=by
  rw [← h,List.drop_of_length_le hk];rfl
section
variable {f:SortField} {a b:Bytes}
theorem cmpF_bd (f:SortField) (a b:Bytes) : -1≤cmpF f a b∧cmpF f a b≤1:=by have:=cmpF_tri f a b;unfold Tri at this;omega
theorem cmpL_bd (l:List SortField) (a b:Bytes) : -1≤cmpL l a b∧cmpL l a b≤1:=by have:=cmpL_tri l a b;unfold Tri at this;omega
theorem cmpI_bd (x y:Int) : -1≤cmpI x y∧cmpI x y≤1:=by have:=cmpI_tri x y;unfold Tri at this;omega
theorem cf_ss (hk:f.Kind=1) (h:(dec (fld a f)).isSome=true) (h2:(dec (fld b f)).isSome=true):cmpI ((dec (fld a f)).getD 0) ((dec (fld b f)).getD 0)=cmpF f a b:=by unfold cmpF;rw [if_pos hk,cmpO_ss h h2]
theorem cf_sn (hk:f.Kind=1) (h:(dec (fld a f)).isSome=true) (h2:(dec (fld b f)).isSome=false):1=cmpF f a b:=by unfold cmpF;rw [if_pos hk,cmpO_sn h h2]
theorem cf_ns (hk:f.Kind=1) (h:(dec (fld a f)).isSome=false) (h2:(dec (fld b f)).isSome=true) : -1=cmpF f a b:=by unfold cmpF;rw [if_pos hk,cmpO_ns h h2]
theorem cf_nn (hk:f.Kind=1) (h:(dec (fld a f)).isSome=false) (h2:(dec (fld b f)).isSome=false):0=cmpF f a b:=by unfold cmpF;rw [if_pos hk,cmpO_nn h h2]
theorem cf_2 (hk:¬ f.Kind=1) (hk2:f.Kind=2):cmpI (bin (fld a f)) (bin (fld b f))=cmpF f a b:=by unfold cmpF;rw [if_neg hk,if_pos hk2]
theorem cf_0 (hk:¬ f.Kind=1) (hk2:¬ f.Kind=2):cmpS (fld a f) (fld b f)=cmpF f a b:=by unfold cmpF;rw [if_neg hk,if_neg hk2]
theorem cf_lt (hk:¬ f.Kind=1) (hk2:¬ f.Kind=2) (h:Op.bytesLess (fld a f) (fld b f)=true) : -1=cmpF f a b:=by rw [← cf_0 hk hk2];exact (if_pos h).symm
theorem cf_gt (hk:¬ f.Kind=1) (hk2:¬ f.Kind=2) (h:Op.bytesLess (fld a f) (fld b f)=false) (h2:fld a f≠fld b f):1=cmpF f a b:=by rw [← cf_0 hk hk2];exact ((if_neg (by rw [h];decide)).trans (if_neg h2)).symm
theorem cf_eq (hk:¬ f.Kind=1) (hk2:¬ f.Kind=2) (h:Op.bytesLess (fld a f) (fld b f)=false) (h2:fld a f=fld b f):0=cmpF f a b:=by rw [← cf_0 hk hk2];exact ((if_neg (by rw [h];decide)).trans (if_pos h2)).symm
variable {n m:Int} {o q:Bool}
end
def cmpV (l:List SortField) (a b:Bytes):Int:=if valid l=true then cmpL l a b else 0
theorem cmpV_bd (l:List SortField) (a b:Bytes) : -1≤cmpV l a b∧cmpV l a b≤1:=by
  unfold cmpV;split
  · exact cmpL_bd l a b
  · omega
theorem most_look (k:Int):(lk [((0:Int),vI 200),(1,vI 18),(2,vI 8)] k).getD (vI 0)=vI (most k):=by
  unfold most
  by_cases h0:k=0
  · subst h0;rfl
  · rw [if_neg h0]
    by_cases h1:k=1
    · subst h1;rfl
    · rw [if_neg h1]
      by_cases h2:k=2
      · subst h2;rfl
      · rw [if_neg h2]
        unfold lk;rw [if_neg h0];unfold lk;rw [if_neg h1];unfold lk;rw [if_neg h2];rfl
theorem fok_bad {f:SortField} (h:¬ (0≤f.At∧f.At≤1000∧1≤f.Length∧f.Length≤most f.Kind∧f.At+f.Length≤1000)):fok f=false:=by
  rw [Bool.eq_false_iff];intro h2;exact h (fok_facts h2)
theorem fok_good {f:SortField} (h:0≤f.At∧f.At≤1000∧1≤f.Length∧f.Length≤most f.Kind∧f.At+f.Length≤1000):fok f=true:=by
  unfold fok;simp only [Bool.and_eq_true,decide_eq_true_eq];omega
theorem getD_mem {α:Type} {l:List α} {k:Nat} {d:α} (hk:k<l.length):l.getD k d∈l:=by
  rw [List.getD_eq_getElem?_getD,List.getElem?_eq_getElem hk];exact List.getElem_mem hk
theorem valid_bad {l:List SortField} {k:Nat} (hk:k<l.length) (h:fok (l.getD k default)=false):valid l=false:=by
  rw [Bool.eq_false_iff];intro h2
  rw [(valid_facts h2).2 k hk] at h;cases h
theorem valid_end {l:List SortField} (h:∀ i,i<l.length→fok (l.getD i default)=true):valid l=decide ((l.length:Int)≤8):=by
  unfold valid
  rw [show l.all fok=true from List.all_eq_true.2 fun x hx=>by
    obtain ⟨i,hi,rfl⟩:=List.mem_iff_getElem.1 hx
    have:=h i hi
    rwa [List.getD_eq_getElem?_getD,List.getElem?_eq_getElem hi] at this,Bool.true_and]
end R44
end Go.Proofs.YtggobegaiijhhaaGreatDoor
namespace Go.Proofs.YtggobegaiijhhaaGreatDoor
open Go.GV
namespace Hp
open Srt (Cmp)
variable {α:Type} {c:α→α→Int}
def orL:List Int→Int
  | []=>0
  | x::r=>if x≠0 then x else orL r
theorem or_go {l:List Int} {k:Nat} (hk:k<l.length) (h:orL (l.drop k)=orL l) (h0:l.getD k 0=0):orL (l.drop (k+1))=orL l:=by
  rw [← h,R44.drop_cons (d:=0) hk,orL,if_neg (by omega)]
theorem or_hit {l:List Int} {k:Nat} (hk:k<l.length) (h:orL (l.drop k)=orL l) (h0:l.getD k 0≠0):l.getD k 0=orL l:=by
  rw [← h,R44.drop_cons (d:=0) hk,orL,if_pos h0]
theorem or_end {l:List Int} {k:Nat} (hk:l.length≤k) (h:orL (l.drop k)=orL l):0=orL l:=by rw [← h,List.drop_of_length_le hk];rfl
theorem or_cmp {β:Type} {c d:β→β→Int} (h:Cmp c) (k:Cmp d):Cmp fun p q=>if c p q≠0 then c p q else d p q:=by
  constructor
  · intro a b
    have:=h.anti a b
    by_cases h0:c a b=0
    · rw [if_neg (by omega),if_neg (by omega)];exact k.anti a b
    · rw [if_pos (by omega),if_pos h0];exact this
  · intro a b d' h1 h2
    have t:=h.trans a b d'
    replace h1:(if c a b≠0 then c a b else d a b)≤0:=h1
    replace h2:(if c b d'≠0 then c b d' else d b d')≤0:=h2
    show (if c a d'≠0 then c a d' else d a d')≤0
    by_cases h3:c a b=0
    · rw [if_neg (by omega)] at h1
      by_cases h4:c b d'=0
      · rw [if_neg (by omega)] at h2
        have t2:=h.trans d' b a (by have:=h.anti b d';omega) (by have:=h.anti a b;omega)
        have:=h.anti a d'
        rw [if_neg (by have:=t (by omega) (by omega);omega)]
        exact k.trans _ _ _ h1 h2
      · rw [if_pos h4] at h2
        have:=h.le_lt (a:=a) (b:=b) (d:=d') (by omega) (by omega)
        rw [if_pos (by omega)];omega
    · rw [if_pos h3] at h1
      have h5:c b d'≤0:=by
        by_cases h4:c b d'=0
        · omega
        · rw [if_pos h4] at h2;exact h2
      have:=h.lt_le (a:=a) (b:=b) (d:=d') (by omega) h5
      rw [if_pos (by omega)];omega
def ec (l:List SortField) (p q:element):Int:=orL [R44.cmpI p.run q.run,R44.cmpL l p.record q.record,R44.cmpI p.no q.no]
theorem ec_ok (l:List SortField):Cmp (ec l):=by
  have h1:Cmp fun p q:element=>R44.cmpI p.run q.run:=R44.cmp_map R44.cmpI_ok element.run
  have h2:Cmp fun p q:element=>R44.cmpL l p.record q.record:=R44.cmp_map (R44.cmpL_ok l) element.record
  have h3:Cmp fun p q:element=>R44.cmpI p.no q.no:=R44.cmp_map R44.cmpI_ok element.no
  have:=or_cmp h1 (or_cmp h2 h3)
  refine ⟨fun a b=>?_,fun a b d=>?_⟩
  · have e:=this.anti a b
    unfold ec orL orL orL orL
    simp only [ne_eq] at e ⊢
    by_cases e3:R44.cmpI a.no b.no=0 <;> by_cases e4:R44.cmpI b.no a.no=0 <;> simp_all
  · have e:=this.trans a b d
    have key:∀ p q:element,ec l p q=if R44.cmpI p.run q.run≠0 then R44.cmpI p.run q.run else if R44.cmpL l p.record q.record≠0 then R44.cmpL l p.record q.record else R44.cmpI p.no q.no:=fun p q=>by
      unfold ec orL orL orL orL
      by_cases e3:R44.cmpI p.no q.no=0 <;> simp_all
    rw [key,key,key];exact e
def Heap (c:α→α→Int) (d:α) (ys:List α):Prop:=∀ j,0<j→j<ys.length→c (ys.getD ((j-1) / 2) d) (ys.getD j d)≤0
theorem heap_min (h:Cmp c) {d:α} {ys:List α} (hh:Heap c d ys):∀ j,j<ys.length→c (ys.getD 0 d) (ys.getD j d)≤0:=by
  intro j
  induction j using Nat.strongRecOn with
  | _ j ih =>
    intro hj
    by_cases h0:j=0
    · subst h0;rw [h.self];omega
    · exact h.trans _ _ _ (ih ((j-1) / 2) (by omega) (by omega)) (hh j (by omega) hj)
def swap (ys:List α) (d:α) (i k:Nat):List α:=(ys.set i (ys.getD k d)).set k (ys.getD i d)
theorem swap_len (ys:List α) (d:α) (i k:Nat):(swap ys d i k).length=ys.length:=by unfold swap;rw [List.length_set,List.length_set]
theorem getD_lt {ys:List α} {d:α} {i:Nat} (h:i<ys.length):ys.getD i d=ys[i]:=by rw [List.getD_eq_getElem?_getD,List.getElem?_eq_getElem h];rfl
theorem swap_perm {ys:List α} {d:α} {i k:Nat} (hi:i<ys.length) (hk:k<ys.length):(swap ys d i k).Perm ys:=by
  unfold swap
  rw [getD_lt hi,getD_lt hk]
  exact List.set_set_perm hi hk
theorem set_getD {ys:List α} {d x:α} {i j:Nat} (hi:i<ys.length):(ys.set i x).getD j d=if i=j then x else ys.getD j d:=by
  rw [List.getD_eq_getElem?_getD,List.getElem?_set]
  by_cases h:i=j
  · subst h;rw [if_pos rfl,if_pos rfl,if_pos hi];rfl
  · rw [if_neg h,if_neg h,← List.getD_eq_getElem?_getD]
theorem swap_at {ys:List α} {d:α} {i k:Nat} (hi:i<ys.length) (hk:k<ys.length) (j:Nat):(swap ys d i k).getD j d=if j=k then ys.getD i d else if j=i then ys.getD k d else ys.getD j d:=by
  unfold swap
  rw [set_getD (by rw [List.length_set];exact hk),set_getD hi]
  by_cases h1:k=j
  · rw [if_pos h1,if_pos h1.symm]
  · rw [if_neg h1,if_neg (show ¬ j=k from fun e=>h1 e.symm)]
    by_cases h2:i=j
    · rw [if_pos h2,if_pos h2.symm]
    · rw [if_neg h2,if_neg (show ¬ j=i from fun e=>h2 e.symm)]
structure Up (c:α→α→Int) (d:α) (ys:List α) (i:Nat):Prop where
  lt:i<ys.length
  ok:∀ j,0<j→j<ys.length→j≠i→c (ys.getD ((j-1) / 2) d) (ys.getD j d)≤0
  below:0<i → ∀ j,0<j→j<ys.length→(j-1) / 2=i→c (ys.getD ((i-1) / 2) d) (ys.getD j d)≤0
theorem up_start {d:α} {ys:List α} (h:Heap c d ys) (x:α):Up c d (ys++[x]) ys.length:=by
  have hl:(ys++[x]).length=ys.length+1:=by simp
  have ha:∀ j,j<ys.length→(ys++[x]).getD j d=ys.getD j d:=fun j hj=>by rw [List.getD_eq_getElem?_getD,List.getElem?_append_left hj,← List.getD_eq_getElem?_getD]
  refine ⟨by omega,fun j h0 hj hne=>?_,fun h0 j hj hjl hp=>by omega⟩
  rw [ha _ (by omega),ha _ (by omega)]
  exact h j h0 (by omega)
theorem up_step (h:Cmp c) {d:α} {ys:List α} {i:Nat} (hu:Up c d ys i) (h0:0<i) (hlt:c (ys.getD i d) (ys.getD ((i-1) / 2) d)<0):Up c d (swap ys d i ((i-1) / 2)) ((i-1) / 2):=by
  have hi:=hu.lt
  have hk:(i-1) / 2<ys.length:=by omega
  have hki:(i-1) / 2≠i:=by omega
  refine ⟨by rw [swap_len];exact hk,fun j hj hjl hne=>?_,fun hp j hj hjl hjp=>?_⟩
  · rw [swap_len] at hjl
    rw [swap_at hi hk,swap_at hi hk]
    by_cases e1:j=i
    · subst e1
      rw [if_pos rfl,if_neg hki.symm,if_pos rfl];omega
    · rw [if_neg hne,if_neg e1]
      by_cases e2:(j-1) / 2=(i-1) / 2
      · rw [if_pos e2]
        have h1:=hu.ok j hj hjl e1
        rw [e2] at h1
        exact h.trans _ _ _ (by omega) h1
      · rw [if_neg e2]
        by_cases e3:(j-1) / 2=i
        · rw [if_pos e3]
          exact hu.below h0 j hj hjl e3
        · rw [if_neg e3];exact hu.ok j hj hjl e1
  · rw [swap_len] at hjl
    rw [swap_at hi hk,swap_at hi hk]
    rw [if_neg (by omega),if_neg (by omega)]
    have h1:=hu.ok ((i-1) / 2) hp hk hki
    by_cases e1:j=i
    · subst e1;rw [if_neg hki.symm,if_pos rfl];exact h1
    · rw [if_neg (by omega),if_neg e1]
      have h2:=hu.ok j hj hjl e1
      rw [hjp] at h2
      exact h.trans _ _ _ h1 h2
theorem up_end (h:Cmp c) {d:α} {ys:List α} {i:Nat} (hu:Up c d ys i) (he:0<i→¬ c (ys.getD i d) (ys.getD ((i-1) / 2) d)<0):Heap c d ys:=by
  intro j hj hjl
  by_cases e:j=i
  · subst e;have:=he hj;have:=h.anti (ys.getD j d) (ys.getD ((j-1) / 2) d);omega
  · exact hu.ok j hj hjl e
structure Down (c:α→α→Int) (d:α) (ys:List α) (i:Nat):Prop where
  ok:∀ j,0<j→j<ys.length→(j-1) / 2≠i→c (ys.getD ((j-1) / 2) d) (ys.getD j d)≤0
  below:0<i → ∀ j,0<j→j<ys.length→(j-1) / 2=i→c (ys.getD ((i-1) / 2) d) (ys.getD j d)≤0
theorem down_start {d:α} {ys:List α} (h:Heap c d ys) (h0:0<ys.length):Down c d ((ys.set 0 (ys.getD (ys.length-1) d)).take (ys.length-1)) 0:=by
  have hl:((ys.set 0 (ys.getD (ys.length-1) d)).take (ys.length-1)).length=ys.length-1:=by rw [List.length_take,List.length_set];omega
  have ha:∀ j,0<j→j<ys.length-1→((ys.set 0 (ys.getD (ys.length-1) d)).take (ys.length-1)).getD j d=ys.getD j d:=fun j hj hjl=>by
    rw [List.getD_eq_getElem?_getD,List.getElem?_take,if_pos hjl,← List.getD_eq_getElem?_getD,set_getD h0,if_neg (by omega)]
  refine ⟨fun j hj hjl hne=>?_,fun hh=>by omega⟩
  rw [hl] at hjl
  rw [ha _ (by omega) (by omega),ha _ hj hjl]
  exact h j hj (by omega)
theorem down_step {d:α} {ys:List α} {i k:Nat} (hu:Down c d ys i) (hk:k<ys.length) (h0:0<k) (hki:(k-1) / 2=i) (hlt:c (ys.getD k d) (ys.getD i d)<0) (hmin:∀ j,0<j→j<ys.length→(j-1) / 2=i→c (ys.getD k d) (ys.getD j d)≤0):Down c d (swap ys d i k) k:=by
  have hi:i<ys.length:=by omega
  refine ⟨fun j hj hjl hne=>?_,fun hp j hj hjl hjp=>?_⟩
  · rw [swap_len] at hjl
    rw [swap_at hi hk,swap_at hi hk]
    by_cases e1:(j-1) / 2=i
    · rw [if_neg hne,if_pos e1]
      by_cases e2:j=k
      · subst e2;rw [if_pos rfl];omega
      · rw [if_neg e2,if_neg (by omega)]
        exact hmin j hj hjl e1
    · rw [if_neg hne,if_neg e1]
      by_cases e2:j=k
      · subst e2;exact absurd hki e1
      · rw [if_neg e2]
        by_cases e3:j=i
        · subst e3;rw [if_pos rfl]
          exact hu.below hj k h0 hk hki
        · rw [if_neg e3];exact hu.ok j hj hjl e1
  · rw [swap_len] at hjl
    rw [swap_at hi hk,swap_at hi hk]
    rw [hki,if_neg (by omega),if_pos rfl,if_neg (by omega),if_neg (by omega)]
    have:=hu.ok j hj hjl (by omega)
    rwa [hjp] at this
theorem down_end {d:α} {ys:List α} {i:Nat} (hu:Down c d ys i) (he:∀ j,0<j→j<ys.length→(j-1) / 2=i→c (ys.getD i d) (ys.getD j d)≤0):Heap c d ys:=by
  intro j hj hjl
  by_cases e:(j-1) / 2=i
  · rw [e];exact he j hj hjl e
  · exact hu.ok j hj hjl e
theorem pop_perm {d:α} {ys:List α} (h0:0<ys.length):(ys.getD 0 d::(ys.set 0 (ys.getD (ys.length-1) d)).take (ys.length-1)).Perm ys:=by
  cases ys with
  | nil=>simp at h0
  | cons x r =>
    show (x::(((x::r).getD r.length d::r).take r.length)).Perm (x::r)
    refine List.Perm.cons x ?_
    cases r with
    | nil=>exact .nil
    | cons y s =>
      rw [List.length_cons,List.take_succ_cons]
      have e:(x::y::s).getD (s.length+1) d=(y::s).getLast (by simp):=by
        rw [List.getD_eq_getElem?_getD,List.getElem?_cons_succ,List.getLast_eq_getElem,List.getElem?_eq_getElem (by simp)];simp
      rw [e]
      have e2:(y::s).take s.length=(y::s).dropLast:=by rw [List.dropLast_eq_take];rfl
      rw [e2]
      have:=List.dropLast_concat_getLast (l:=y::s) (by simp)
      refine (List.perm_append_singleton _ _).symm.trans ?_
      rw [this]
structure Kid (c:α→α→Int) (d:α) (ys:List α) (i k:Nat):Prop where
  at_:k=2*i+1∨k=2*i+2
  lt:2*i+1<ys.length→k<ys.length
  least:∀ j,0<j→j<ys.length→(j-1) / 2=i→c (ys.getD k d) (ys.getD j d)≤0
theorem kid_a {d:α} {ys:List α} {i:Nat} (h:Cmp c) (hl:2*i+1+1<ys.length) (hc:c (ys.getD (2*i+1+1) d) (ys.getD (2*i+1) d)<0):Kid c d ys i (2*i+1+1):=
  ⟨.inr rfl,fun _=>hl,fun j h0 hj hp=>by
    rcases (by omega:j=2*i+1∨j=2*i+1+1) with rfl | rfl
    · omega
    · rw [h.self];omega⟩
theorem kid_b {d:α} {ys:List α} {i:Nat} (h:Cmp c) (hc:¬ c (ys.getD (2*i+1+1) d) (ys.getD (2*i+1) d)<0):Kid c d ys i (2*i+1):=
  ⟨.inl rfl,fun h=>h,fun j h0 hj hp=>by
    rcases (by omega:j=2*i+1∨j=2*i+1+1) with rfl | rfl
    · rw [h.self];omega
    · have:=h.anti (ys.getD (2*i+1+1) d) (ys.getD (2*i+1) d);omega⟩
theorem kid_c {d:α} {ys:List α} {i:Nat} (h:Cmp c) (hl:¬ 2*i+1+1<ys.length):Kid c d ys i (2*i+1):=
  ⟨.inl rfl,fun h=>h,fun j h0 hj hp=>by
    rcases (by omega:j=2*i+1∨j=2*i+1+1) with rfl | rfl
    · rw [h.self];omega
    · omega⟩
theorem down_kid {d:α} {ys:List α} {i k:Nat} (hu:Down c d ys i) (hk:k<ys.length) (hlt:c (ys.getD k d) (ys.getD i d)<0) (m:Kid c d ys i k):Down c d ((ys.set i (ys.getD k d)).set k (ys.getD i d)) k:=
  down_step hu hk (by have:=m.at_;omega) (by have:=m.at_;omega) hlt m.least
theorem down_none {d:α} {ys:List α} {i k:Nat} (hu:Down c d ys i) (hk:ys.length≤k) (m:Kid c d ys i k):Heap c d ys:=
  down_end hu fun j h0 hj hp=>by have:=m.at_;have:=m.lt;omega
theorem down_stop (h:Cmp c) {d:α} {ys:List α} {i k:Nat} (hu:Down c d ys i) (hlt:¬ c (ys.getD k d) (ys.getD i d)<0) (m:Kid c d ys i k):Heap c d ys:=
  down_end hu fun j h0 hj hp=>h.trans _ _ _ (by have:=h.anti (ys.getD k d) (ys.getD i d);omega) (m.least j h0 hj hp)
theorem swap_perm2 {xs ys:List α} {d:α} {i k:Nat} (hi:i<ys.length) (hk:k<ys.length) (hp:ys.Perm xs):((ys.set i (ys.getD k d)).set k (ys.getD i d)).Perm xs:=(swap_perm hi hk).trans hp
theorem swap_perm3 {x:α} {xs ys:List α} {d:α} {i k:Nat} (hi:i<ys.length) (hk:k<ys.length) (hp:(x::ys).Perm xs):(x::(ys.set i (ys.getD k d)).set k (ys.getD i d)).Perm xs:=((swap_perm hi hk).cons x).trans hp
theorem swap_len2 (ys:List α) (d:α) (i k:Nat):((ys.set i (ys.getD k d)).set k (ys.getD i d)).length=ys.length:=swap_len ys d i k
theorem up_swap (h:Cmp c) {d:α} {ys:List α} {i:Nat} (hu:Up c d ys i) (h0:0<i) (hlt:c (ys.getD i d) (ys.getD ((i-1) / 2) d)<0):Up c d ((ys.set i (ys.getD ((i-1) / 2) d)).set ((i-1) / 2) (ys.getD i d)) ((i-1) / 2):=up_step h hu h0 hlt
def Rok (l:List element):Prop:=∀ e∈l,e.record.length≤1000000000
theorem Rok.perm {l m:List element} (h:Rok m) (hp:l.Perm m):Rok l:=fun e he=>h e (hp.mem_iff.1 he)
theorem Rok.snoc {l:List element} {x:element} (h:Rok l) (hx:x.record.length≤1000000000):Rok (l++[x]):=fun e he=>by
  rcases List.mem_append.1 he with h1 | h1
  · exact h e h1
  · rw [List.mem_singleton.1 h1];exact hx
theorem Rok.at_ {l:List element} (h:Rok l) {i:Nat} (hi:i<l.length):(l.getD i default).record.length≤1000000000:=by
  rw [getD_lt hi];exact h _ (List.getElem_mem hi)
theorem Rok.tail {l m:List element} {x:element} (h:Rok m) (hp:(x::l).Perm m):Rok l:=fun e he=>h e (hp.mem_iff.1 (List.mem_cons_of_mem _ he))
end Hp
end Go.Proofs.YtggobegaiijhhaaGreatDoor
namespace Go.Proofs.YtggobegaiijhhaaGreatDoor
open Go.GV
namespace R44
open Srt (Cmp)
def few (l:List Bytes) (m:Int):Bool:=l.all (fun x=>decide (x.length≤60))&&decide ((l.length:Int)≤m)
theorem few_facts {l:List Bytes} {m:Int} (h:few l m=true):(l.length:Int)≤m ∧ ∀ i,(l.getD i []).length≤60:=by
  unfold few at h
  simp only [Bool.and_eq_true,decide_eq_true_eq,List.all_eq_true] at h
  refine ⟨h.2,fun i=>?_⟩
  by_cases hi:i<l.length
  · rw [List.getD_eq_getElem?_getD,List.getElem?_eq_getElem hi];exact h.1 _ (List.getElem_mem hi)
  · rw [List.getD_eq_getElem?_getD,List.getElem?_eq_none (by omega)];exact Nat.zero_le _
def long (l:List Bytes):Bool:=l.any fun x=>decide (1000<x.length)
theorem long_hit {l:List Bytes} {i:Nat} (hi:i<l.length) (h:1000<(l.getD i []).length):true=long l:=by
  refine (List.any_eq_true.2 ⟨l.getD i [],getD_mem hi,decide_eq_true h⟩).symm
theorem long_none {l:List Bytes} (h:∀ i,i<l.length→(l.getD i []).length≤1000):false=long l:=by
  refine (Bool.eq_false_iff.2 fun h2=>?_).symm
  obtain ⟨x,hx,h3⟩:=List.any_eq_true.1 h2
  obtain ⟨i,hi,rfl⟩:=List.mem_iff_getElem.1 hx
  have:=h i hi
  rw [List.getD_eq_getElem?_getD,List.getElem?_eq_getElem hi] at this
  have:=of_decide_eq_true h3
  simp only [Option.getD_some] at *
  omega
theorem long_facts {l:List Bytes} (h:long l=false):∀ i,(l.getD i []).length≤1000:=fun i=>by
  by_cases hi:i<l.length
  · rcases Nat.lt_or_ge 1000 (l.getD i []).length with h2 | h2
    · rw [← long_hit hi h2] at h;cases h
    · exact h2
  · rw [List.getD_eq_getElem?_getD,List.getElem?_eq_none (by omega)];exact Nat.zero_le _
def inK (k:Int) (s:Bytes):Bytes × Bool:=if k=1 then (if 120∈s then ([],false) else (s,true)) else if k=2 then (s.reverse,decide (s≠[])) else (s,true)
def smK (k:Int) (a b:Bytes):Bytes × Bool:=if k=1 then (a,true) else if k=2 then (a++b,true) else if k=3 then (b,decide ((b.length:Int)≤(a.length:Int))) else ([],false)
def inputs (f:Bytes→Bytes × Bool):List Bytes→Option (List Bytes)
  | []=>some []
  | s::r=>if (f s).2=true then (if 1000<(f s).1.length then none else (inputs f r).map fun l=>(f s).1::l) else inputs f r
def inTo (f:Bytes→Bytes × Bool) (out:List Bytes) (l:List Bytes):Option (List Bytes):=(inputs f l).map fun r=>out++r
def sums (c:Bytes→Bytes→Int) (f:Bytes→Bytes→Bytes × Bool) (out:List Bytes):List Bytes→List Bytes × Int
  | []=>(out,0)
  | s::r=>if 0<out.length∧c (out.getD (out.length-1) []) s=0∧(f (out.getD (out.length-1) []) s).2=true then
      (if 1000<(f (out.getD (out.length-1) []) s).1.length then ([],8)
       else if c (f (out.getD (out.length-1) []) s).1 s≠0 then ([],9)
       else sums c f (out.set (out.length-1) (f (out.getD (out.length-1) []) s).1) r)
    else sums c f (out++[s]) r
section
variable {c:Bytes→Bytes→Int} {f:Bytes→Bytes→Bytes × Bool} {out l:List Bytes} {k:Nat} {R:List Bytes × Int}
theorem sums_nil (h:∀ a b,(f a b).2=false):∀ (l out:List Bytes),sums c f out l=(out++l,0)
  | [],out=>by rw [sums,List.append_nil]
  | s::r,out=>by rw [sums,if_neg (by rw [h];simp),sums_nil h r];simp
end
end R44
end Go.Proofs.YtggobegaiijhhaaGreatDoor
namespace Go.Proofs.YtggobegaiijhhaaGreatDoor
open Go.GV
namespace R44
open Srt (Cmp El Sel)
open Hp (ec Heap Rok)
def el (e:El Bytes):element:=⟨(e.run:Int),(e.no:Int),e.x⟩
theorem cmpI_lt {x y:Int} : cmpI x y<0↔x<y:=by unfold cmpI;split <;> (try split) <;> omega
theorem cmpI_zero {x y:Int} : cmpI x y=0↔x=y:=by unfold cmpI;split <;> (try split) <;> omega
theorem ec_lt {l:List SortField} {p q:El Bytes} : ec l (el p) (el q)<0↔El.lt (cmpL l) p q:=by
  show Hp.orL [cmpI (p.run:Int) q.run,cmpL l p.x q.x,cmpI (p.no:Int) q.no]<0↔_
  have h1:=cmpI_lt (x:=(p.run:Int)) (y:=q.run)
  have h2:=cmpI_zero (x:=(p.run:Int)) (y:=q.run)
  have h3:=cmpI_lt (x:=(p.no:Int)) (y:=q.no)
  have h4:=cmpI_zero (x:=(p.no:Int)) (y:=q.no)
  unfold El.lt Srt.lt El.tag Hp.orL Hp.orL Hp.orL Hp.orL
  simp only
  split
  · omega
  · split
    · omega
    · split <;> omega
theorem sel_any {c:Bytes→Bytes→Int} : ∀ (m m':Nat) (mem:List (El Bytes)) (rest:List (Bytes × Nat)) (out:List (List (Bytes × Nat))),mem.length+rest.length≤m→mem.length+rest.length≤m'→Srt.sel c m mem rest out=Srt.sel c m' mem rest out
  | 0,0,_,_,_,_,_=>rfl
  | 0,m'+1,[],_,_,_,_=>rfl
  | m+1,0,[],_,_,_,_=>rfl
  | m+1,m'+1,[],_,_,_,_=>rfl
  | 0,_+1,_::_,_,_,h,_=>by simp at h
  | _+1,0,_::_,_,_,_,h=>by simp at h
  | m+1,m'+1,e::mem,[],out,h,h'=>by rw [Srt.sel,Srt.sel,sel_any m m' mem [] _ (by simp at h ⊢;omega) (by simp at h' ⊢;omega)]
  | m+1,m'+1,e::mem,y::rest,out,h,h'=>by
    rw [Srt.sel,Srt.sel,sel_any m m' _ rest _ (by rw [(Srt.insE_perm _ _).length_eq];simp at h ⊢;omega) (by rw [(Srt.insE_perm _ _).length_eq];simp at h' ⊢;omega)]
def selA (c:Bytes→Bytes→Int) (mem:List (El Bytes)) (rest:List (Bytes × Nat)) (out:List (List (Bytes × Nat))):List (List (Bytes × Nat)):=Srt.sel c (mem.length+rest.length) mem rest out
theorem selA_nil {c:Bytes→Bytes→Int} {rest:List (Bytes × Nat)} {out:List (List (Bytes × Nat))} : selA c [] rest out=out:=by
  unfold selA;cases hn:([]:List (El Bytes)).length+rest.length <;> rfl
theorem selA_dry {c:Bytes→Bytes→Int} {e:El Bytes} {mem:List (El Bytes)} {out:List (List (Bytes × Nat))} : selA c (e::mem) [] out=selA c mem [] (Srt.putR out e.run e.tag):=by
  unfold selA;rw [show (e::mem).length+([]:List (Bytes × Nat)).length=(mem.length+0)+1 by simp,Srt.sel];rfl
theorem selA_go {c:Bytes→Bytes→Int} {e:El Bytes} {y:Bytes × Nat} {mem:List (El Bytes)} {rest:List (Bytes × Nat)} {out:List (List (Bytes × Nat))} : selA c (e::mem) (y::rest) out=selA c (Srt.insE c mem ⟨if c y.1 e.x<0 then e.run+1 else e.run,y.2,y.1⟩) rest (Srt.putR out e.run e.tag):=by
  unfold selA
  rw [show (e::mem).length+(y::rest).length=(mem.length+rest.length+1)+1 by simp;omega,Srt.sel]
  exact sel_any _ _ _ _ _ (by rw [(Srt.insE_perm _ _).length_eq,List.length_cons];omega) (by rw [(Srt.insE_perm _ _).length_eq,List.length_cons];omega)
structure RunI (l:List SortField) (M:Nat) (rs:List Bytes) (next:Nat) (ys:List element) (rws:List (List Bytes)) (mem:List (El Bytes)) (out:List (List (Bytes × Nat))):Prop where
  sel:Sel (cmpL l) M rs.zipIdx mem (rs.zipIdx.drop next) out 0
  dry:mem=[]→rs.zipIdx.drop next=[]
  eq:selA (cmpL l) mem (rs.zipIdx.drop next) out=Srt.runsT (cmpL l) M rs
  perm:ys.Perm (mem.map el)
  heap:Heap (ec l) default ys
  rows:rws=out.map (List.map Prod.fst)
  nx:next≤rs.length
def RunJ (l:List SortField) (M:Nat) (rs:List Bytes) (next:Nat) (ys:List element) (rws:List (List Bytes)):Prop:=∃ mem out,RunI l M rs next ys rws mem out
theorem heap_head {l:List SortField} {ys:List element} {e:El Bytes} {r:List (El Bytes)} (hh:Heap (ec l) default ys) (hp:ys.Perm ((e::r).map el)) (ho:(e::r).Pairwise (El.lt (cmpL l))):ys.getD 0 default=el e:=by
  have hc:=Hp.ec_ok l
  have hl:0<ys.length:=by rw [hp.length_eq];simp
  have h0:ys.getD 0 default∈(e::r).map el:=hp.mem_iff.1 (getD_mem hl)
  rw [List.map_cons] at h0
  rcases List.mem_cons.1 h0 with h | h
  · exact h
  · obtain ⟨f,hf,hfe⟩:=List.mem_map.1 h
    have hlt:=ec_lt.2 ((List.pairwise_cons.1 ho).1 f hf)
    have hmem:el e∈ys:=hp.mem_iff.2 (by rw [List.map_cons];exact List.mem_cons_self)
    obtain ⟨j,hj,hje⟩:=List.mem_iff_getElem.1 hmem
    have hm:=Hp.heap_min hc hh j hj
    rw [Hp.getD_lt hj,hje,← hfe] at hm
    have:=hc.anti (el e) (el f)
    omega
theorem pop_rest {ys ys':List element} {e:El Bytes} {r:List (El Bytes)} (hp:ys.Perm ((e::r).map el)) (h0:ys.getD 0 default=el e) (hq:(ys.getD 0 default::ys').Perm ys):ys'.Perm (r.map el):=by
  have h:=hq.trans hp
  rw [h0,List.map_cons] at h
  exact (List.perm_cons (el e)).1 h
theorem zip_drop {rs:List Bytes} {k:Nat} (hk:k<rs.length):rs.zipIdx.drop k=(rs.getD k [],k)::rs.zipIdx.drop (k+1):=by
  rw [List.drop_eq_getElem_cons (by simpa using hk)]
  congr 1
  rw [List.getElem_zipIdx,List.getD_eq_getElem?_getD,List.getElem?_eq_getElem hk]
  simp
theorem zip_done {rs:List Bytes} {k:Nat} (hk:rs.length≤k):rs.zipIdx.drop k=[]:=List.drop_of_length_le (by simpa using hk)
theorem RunJ.head {l:List SortField} {M next:Nat} {rs:List Bytes} {ys:List element} {rws:List (List Bytes)} (h:RunJ l M rs next ys rws) (h0:0<ys.length) :
    0≤(ys.getD 0 default).run∧(ys.getD 0 default).run≤(rws.length:Int)∧(rws.length:Int)≤(ys.getD 0 default).run+1:=by
  obtain ⟨mem,out,h⟩:=h
  have hl:rws.length=out.length:=by rw [h.rows,List.length_map]
  cases hm:mem with
  | nil=>rw [hm] at h;have:=h.perm.length_eq;simp at this;simp [this] at h0
  | cons e r =>
    subst hm
    rw [heap_head h.heap h.perm h.sel.ord]
    have:=h.sel.runsE e List.mem_cons_self
    show (0:Int)≤(e.run:Int)∧(e.run:Int)≤_∧_≤(e.run:Int)+1
    rw [hl];omega
def putS (out:List (List Bytes)) (r:Nat) (s:Bytes):List (List Bytes):=if r=out.length then out++[[s]] else out.set r (out.getD r []++[s])
theorem putS_map {out:List (List (Bytes × Nat))} {r:Nat} {p:Bytes × Nat} : putS (out.map (List.map Prod.fst)) r p.1=(Srt.putR out r p).map (List.map Prod.fst):=by
  unfold putS Srt.putR
  rw [List.length_map]
  split
  · rw [List.map_append];rfl
  · rw [List.map_set,List.map_append,Srt.getD_map];rfl
theorem RunJ.dry {l:List SortField} {M next:Nat} {rs:List Bytes} {ys ys':List element} {rws:List (List Bytes)} (h:RunJ l M rs next ys rws) (h0:0<ys.length) (hn:¬ next<rs.length) (hp:(ys.getD 0 default::ys').Perm ys) (hh:Heap (ec l) default ys') :
    RunJ l M rs next ys' (putS rws (ys.getD 0 default).run.toNat (ys.getD 0 default).record):=by
  obtain ⟨mem,out,h⟩:=h
  cases hm:mem with
  | nil=>rw [hm] at h;have:=h.perm.length_eq;simp at this;simp [this] at h0
  | cons e r =>
    subst hm
    have he:=heap_head h.heap h.perm h.sel.ord
    have hd:=zip_done (rs:=rs) (k:=next) (by omega)
    have hs:=h.sel
    have heq:=h.eq
    rw [hd] at hs heq
    refine ⟨r,Srt.putR out e.run e.tag,?_,fun _=>hd,?_,pop_rest h.perm he hp,hh,?_,h.nx⟩
    · rw [hd];exact hs.pop.1.dry
    · rw [hd,← heq,selA_dry]
    · rw [h.rows,he];exact putS_map (p:=e.tag)
theorem RunJ.go {l:List SortField} {M next:Nat} {rs:List Bytes} {ys ys' ys2:List element} {rws:List (List Bytes)} {run:Int} (h:RunJ l M rs next ys rws) (h0:0<ys.length) (hn:next<rs.length) (hp:(ys.getD 0 default::ys').Perm ys)
    (hrun:run=if cmpL l (rs.getD next []) (ys.getD 0 default).record<0 then (ys.getD 0 default).run+1 else (ys.getD 0 default).run) (hp2:ys2.Perm (ys'++[element.mk run (next:Int) (rs.getD next [])])) (hh:Heap (ec l) default ys2) :
    RunJ l M rs (next+1) ys2 (putS rws (ys.getD 0 default).run.toNat (ys.getD 0 default).record):=by
  obtain ⟨mem,out,h⟩:=h
  cases hm:mem with
  | nil=>rw [hm] at h;have:=h.perm.length_eq;simp at this;simp [this] at h0
  | cons e r =>
    subst hm
    have he:=heap_head h.heap h.perm h.sel.ord
    have hd:=zip_drop hn
    have hs:=h.sel
    have heq:=h.eq
    rw [hd] at hs heq
    obtain ⟨p1,p2,p3,p4⟩:=hs.pop
    have hpush:=p1.push (cmpL_ok l) p2 p3 p4
    rw [he] at hrun
    have hr2:run=((if cmpL l (rs.getD next []) e.x<0 then e.run+1 else e.run:Nat):Int):=by
      rw [hrun]
      show (if cmpL l (rs.getD next []) e.x<0 then (e.run:Int)+1 else (e.run:Int))=_
      split <;> rfl
    refine ⟨_,_,hpush,fun hnil=>?_,?_,?_,hh,?_,by omega⟩
    · have:=congrArg List.length hnil
      rw [(Srt.insE_perm _ _).length_eq] at this;simp at this
    · rw [← heq,selA_go]
    · have hq:=pop_rest h.perm he hp
      refine hp2.trans ?_
      have h3:=(Srt.insE_perm (c:=cmpL l) r ⟨if cmpL l (rs.getD next [],next).1 e.x<0 then e.run+1 else e.run,(rs.getD next [],next).2,(rs.getD next [],next).1⟩).map el
      refine List.Perm.trans ?_ h3.symm
      rw [List.map_cons]
      refine (List.perm_append_singleton _ _).trans ?_
      have:element.mk run (next:Int) (rs.getD next [])=el ⟨if cmpL l (rs.getD next [],next).1 e.x<0 then e.run+1 else e.run,(rs.getD next [],next).2,(rs.getD next [],next).1⟩:=by rw [hr2];rfl
      rw [this]
      exact hq.cons _
    · rw [h.rows,he];exact putS_map (p:=e.tag)
def FillJ (l:List SortField) (rs:List Bytes) (k:Nat) (ys:List element):Prop:=ys.Perm ((Srt.fillE (cmpL l) (rs.zipIdx.take k)).map el)∧Heap (ec l) default ys
theorem FillJ.start (l:List SortField) (rs:List Bytes):FillJ l rs 0 []:=⟨.nil,fun j _ hj=>by simp at hj⟩
theorem FillJ.step {l:List SortField} {rs:List Bytes} {k:Nat} {ys ys2:List element} (h:FillJ l rs k ys) (hk:k<rs.length) (hp:ys2.Perm (ys++[element.mk 0 (k:Int) (rs.getD k [])])) (hh:Heap (ec l) default ys2):FillJ l rs (k+1) ys2:=by
  refine ⟨?_,hh⟩
  have e:rs.zipIdx.take (k+1)=rs.zipIdx.take k++[(rs.getD k [],k)]:=by
    rw [List.take_succ_eq_append_getElem (by simpa using hk)]
    congr 2
    rw [List.getElem_zipIdx,List.getD_eq_getElem?_getD,List.getElem?_eq_getElem hk];simp
  rw [e]
  unfold Srt.fillE
  rw [List.foldl_append]
  show ys2.Perm ((Srt.insE (cmpL l) (Srt.fillE (cmpL l) (rs.zipIdx.take k)) ⟨0,k,rs.getD k []⟩).map el)
  refine hp.trans (List.Perm.trans ?_ ((Srt.insE_perm _ _).map el).symm)
  rw [List.map_cons]
  exact (List.perm_append_singleton _ _).trans (h.1.cons _)
theorem FillJ.run {l:List SortField} {rs:List Bytes} {M:Nat} {ys:List element} (hM:0<M) (h:FillJ l rs (min M rs.length) ys):RunJ l M rs (min M rs.length) ys []:=by
  have hs:=Srt.start_spec (cmpL_ok l) M rs
  have hd:rs.zipIdx.drop (min M rs.length)=rs.zipIdx.drop M:=by
    by_cases hM:M≤rs.length
    · rw [Nat.min_eq_left hM]
    · rw [Nat.min_eq_right (by omega),zip_done (Nat.le_refl _),zip_done (by omega)]
  have ht:rs.zipIdx.take (min M rs.length)=rs.zipIdx.take M:=by
    by_cases hM:M≤rs.length
    · rw [Nat.min_eq_left hM]
    · rw [Nat.min_eq_right (by omega),List.take_of_length_le (by simp),List.take_of_length_le (by simp;omega)]
  have h1:=h.1
  rw [ht] at h1
  refine ⟨_,[],by rw [hd];exact hs.1,fun hn=>?_,?_,h1,h.2,rfl,Nat.min_le_right _ _⟩
  · have:=hs.2
    rw [hn] at this
    have h0:min M rs.length=0:=this.symm
    exact zip_done (by omega)
  · rw [hd]
    unfold selA Srt.runsT
    rw [hs.2]
    exact sel_any _ _ _ _ _ (by rw [hs.2];exact Nat.le_refl _) (by rw [hs.2];simp;omega)
theorem RunJ.done {l:List SortField} {M next:Nat} {rs:List Bytes} {ys:List element} {rws:List (List Bytes)} (h:RunJ l M rs next ys rws) (h0:¬ 0<ys.length):rws=Srt.runs (cmpL l) M rs:=by
  obtain ⟨mem,out,h⟩:=h
  have hm:mem=[]:=by
    have:=h.perm.length_eq
    simp at this
    exact List.length_eq_zero_iff.1 (by omega)
  subst hm
  have he:=h.eq
  rw [selA_nil] at he
  rw [h.rows,he];rfl
def runsV (l:List SortField) (m:Int) (rs:List Bytes):List (List Bytes):=if 1≤m∧valid l=true then Srt.runs (cmpL l) m.toNat rs else []
theorem rw_new {rws:List Rw} {r:Int} {s:Bytes} {A:Option Addr} {c:Nat} {z:Rw} (hz:z.s=[]) (h:r=((rws.length:Nat):Int)):((rws++[z]).set r.toNat (Rw.mk (((rws++[z]).getD r.toNat default).s++[s]) A c)).map Rw.s=putS (rws.map Rw.s) r.toNat s:=by
  have hr:r.toNat=rws.length:=by omega
  rw [hr]
  unfold putS
  rw [List.length_map,if_pos rfl,List.getD_eq_getElem?_getD,List.getElem?_append_right (Nat.le_refl _),Nat.sub_self]
  rw [List.set_append_right _ _ (Nat.le_refl _),Nat.sub_self]
  simp [hz]
theorem rw_old {rws:List Rw} {r:Int} {s:Bytes} {A:Option Addr} {c:Nat} (h0:0≤r) (h:¬ r=((rws.length:Nat):Int)):(rws.set r.toNat (Rw.mk ((rws.getD r.toNat default).s++[s]) A c)).map Rw.s=putS (rws.map Rw.s) r.toNat s:=by
  unfold putS
  rw [List.length_map,if_neg (by omega),List.map_set]
  congr 2
  rw [List.getD_eq_getElem?_getD,List.getD_eq_getElem?_getD,List.getElem?_map]
  cases rws[r.toNat]? <;> rfl
theorem runs_small {c:Bytes→Bytes→Int} (h:Cmp c) {M:Nat} (hM:0<M) (rs:List Bytes):(Srt.runs c M rs).length≤rs.length ∧ ∀ x∈Srt.runs c M rs,x.length≤rs.length:=by
  have hp:=(Srt.runs_perm h hM rs).length_eq
  have key:∀ (ls:List (List Bytes)),(∀ x∈ls,x≠[])→ls.length≤ls.flatten.length:=by
    intro ls
    induction ls with
    | nil=>intro _;exact Nat.le_refl _
    | cons x r ih =>
      intro hx
      rw [List.flatten_cons,List.length_append,List.length_cons]
      have h1:=List.length_pos_iff.2 (hx x List.mem_cons_self)
      have h2:=ih fun y hy=>hx y (List.mem_cons_of_mem _ hy)
      omega
  refine ⟨hp ▸ key _ (Srt.runs_ne h hM rs),fun x hx=>?_⟩
  rw [← hp]
  exact (List.sublist_flatten_of_mem hx).length_le
theorem RunJ.small {l:List SortField} {M next:Nat} {rs:List Bytes} {ys:List element} {rws:List Rw} (h:RunJ l M rs next ys (rws.map Rw.s)):rws.length≤rs.length∧ys.length≤rs.length∧(∀ i,(rws.getD i default).s.length≤rs.length) ∧ ∀ i,((rws++[Rw.mk [] none 0]).getD i default).s.length≤rs.length:=by
  obtain ⟨mem,out,h⟩:=h
  have hp:=h.sel.perm.length_eq
  simp only [List.length_append,List.length_map,List.length_zipIdx] at hp
  have hy:=h.perm.length_eq
  rw [List.length_map] at hy
  have key:∀ (ls:List (List (Bytes × Nat))),(∀ x∈ls,x≠[])→ls.length≤ls.flatten.length:=by
    intro ls
    induction ls with
    | nil=>intro _;exact Nat.le_refl _
    | cons x r ih =>
      intro hx
      rw [List.flatten_cons,List.length_append,List.length_cons]
      have h1:=List.length_pos_iff.2 (hx x List.mem_cons_self)
      have h2:=ih fun y hy=>hx y (List.mem_cons_of_mem _ hy)
      omega
  have hk:=key out h.sel.ne
  have hl:rws.length=out.length:=by
    have:=congrArg List.length h.rows
    rwa [List.length_map,List.length_map] at this
  have hs:∀ i,(rws.getD i default).s.length≤rs.length:=fun i=>by
    by_cases hi:i<rws.length
    · have e:(rws.getD i default).s=(out.getD i []).map Prod.fst:=by
        have h2:=congrArg (fun x:List (List Bytes)=>x.getD i []) h.rows
        replace h2:(rws.map Rw.s).getD i []=(out.map (List.map Prod.fst)).getD i []:=h2
        rw [Srt.getD_map,List.getD_eq_getElem?_getD,List.getElem?_map,List.getElem?_eq_getElem hi] at h2
        rw [List.getD_eq_getElem?_getD,List.getElem?_eq_getElem hi]
        exact h2
      rw [e,List.length_map]
      have hm:out.getD i []∈out:=by
        rw [List.getD_eq_getElem?_getD,List.getElem?_eq_getElem (by omega)];exact List.getElem_mem _
      have:=(List.sublist_flatten_of_mem hm).length_le
      omega
    · rw [getD_out (by omega)];exact Nat.zero_le _
  refine ⟨by omega,by omega,hs,fun i=>?_⟩
  by_cases hi:i<rws.length
  · rw [List.getD_eq_getElem?_getD,List.getElem?_append_left hi,← List.getD_eq_getElem?_getD];exact hs i
  · rw [List.getD_eq_getElem?_getD,List.getElem?_append_right (by omega)]
    cases hj:i-rws.length with
    | zero=>exact Nat.zero_le _
    | succ k=>exact Nat.zero_le _
theorem RunJ.headR {l:List SortField} {M next:Nat} {rs:List Bytes} {ys:List element} {rws:List Rw} (h:RunJ l M rs next ys (rws.map Rw.s)) (h0:0<ys.length) :
    0≤(ys.getD 0 default).run∧(ys.getD 0 default).run≤(rws.length:Int)∧(rws.length:Int)≤(ys.getD 0 default).run+1:=by
  have:=h.head h0
  rwa [List.length_map] at this
theorem RunJ.hp {l:List SortField} {M next:Nat} {rs:List Bytes} {ys:List element} {rws:List (List Bytes)} (h:RunJ l M rs next ys rws):Heap (ec l) default ys:=by
  obtain ⟨mem,out,h⟩:=h;exact h.heap
theorem runsV_or {l:List SortField} {m:Int} {rs:List Bytes} (h:m<1∨valid l=false):[]=runsV l m rs:=by
  unfold runsV;rw [if_neg];rintro ⟨h1,h2⟩;rcases h with h | h
  · omega
  · rw [h] at h2;cases h2
theorem RunJ.fin {l:List SortField} {next:Nat} {m:Int} {rs:List Bytes} {ys:List element} {rws:List (List Bytes)} (h:RunJ l m.toNat rs next ys rws) (h0:¬ 0<ys.length) (hm:1≤m) (hv:valid l=true):rws=runsV l m rs:=by
  unfold runsV;rw [if_pos ⟨hm,hv⟩];exact h.done h0
end R44
end Go.Proofs.YtggobegaiijhhaaGreatDoor
