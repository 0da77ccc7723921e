/- Pl44, Pl44b, Hp44, Pl44c in one text. -/
import Derived.Test.YtggobegaiijhhaaGreatDoorUtilityOnly18
set_option linter.unusedVariables false
set_option linter.unusedSimpArgs false
namespace Go.Proofs.YtggobegaiijhhaaGreatDoor
open Go.GV
namespace R44
open Srt (Cmp)
def most (k:Int):Int:=if k=0 then 200 else if k=1 then 18 else if k=2 then 8 else 0
def fok (f:SortField):Bool:=decide (0≤f.At)&&decide (f.At≤1000)&&decide (1≤f.Length)&&decide (f.Length≤most f.Kind)&&decide (f.At+f.Length≤1000)
def valid (l:List SortField):Bool:=l.all fok&&decide ((l.length:Int)≤8)
theorem most_le (k:Int):most k≤200:=by unfold most;split <;> (try split) <;> (try split) <;> omega
theorem fok_facts {f:SortField} (h:fok f=true):0≤f.At∧f.At≤1000∧1≤f.Length∧f.Length≤most f.Kind∧f.At+f.Length≤1000:=by
  unfold fok at h
  simp only [Bool.and_eq_true,decide_eq_true_eq] at h
  omega
theorem fok_kind {f:SortField} (h:fok f=true):f.Kind=0∨(f.Kind=1∧f.Length≤18)∨(f.Kind=2∧f.Length≤8):=by
  have h:=(fok_facts h)
  unfold most at h
  by_cases h0:f.Kind=0
  · exact .inl h0
  · rw [if_neg h0] at h
    by_cases h1:f.Kind=1
    · rw [if_pos h1] at h;exact .inr (.inl ⟨h1,by omega⟩)
    · rw [if_neg h1] at h
      by_cases h2:f.Kind=2
      · rw [if_pos h2] at h;exact .inr (.inr ⟨h2,by omega⟩)
      · rw [if_neg h2] at h;omega
theorem valid_facts {l:List SortField} (h:valid l=true):l.length≤8 ∧ ∀ i,i<l.length→fok (l.getD i default)=true:=by
  unfold valid at h
  simp only [Bool.and_eq_true,decide_eq_true_eq,List.all_eq_true] at h
  refine ⟨by omega,fun i hi=>h.1 _ ?_⟩
  rw [List.getD_eq_getElem?_getD,List.getElem?_eq_getElem hi]
  exact List.getElem_mem hi
def fld (s:Bytes) (f:SortField):Bytes:=(List.range f.Length.toNat).map fun j=>s.getD (f.At.toNat+j) 32
def num:Bytes→Int→Option Int
  | [],n=>some n
  | c::r,n=>if 48≤c.toNat∧c.toNat≤57 then num r (10*n+((c.toNat:Int)-48)) else none
def trimL (s:Bytes):Bytes:=s.dropWhile (· == 32)
def trimR (s:Bytes):Bytes:=(s.reverse.dropWhile (· == 32)).reverse
def dec (s:Bytes):Option Int:=if (trimR (trimL s)).head? = some 45 then (if (trimR (trimL s)).tail=[] then none else (num (trimR (trimL s)).tail 0).map fun n=>-n) else if trimR (trimL s)=[] then none else num (trimR (trimL s)) 0
def bin (s:Bytes):Int:=s.tail.foldl (fun n c=>256*n+c.toNat) (int8 (s.headD 0))
def cmpI (x y:Int):Int:=if x<y then -1 else if y<x then 1 else 0
def cmpO:Option Int→Option Int→Int
  | some x,some y=>cmpI x y
  | some _,none=>1
  | none,some _=>-1
  | none,none=>0
def cmpS (a b:Bytes):Int:=if Op.bytesLess a b=true then -1 else if a=b then 0 else 1
def cmpF (f:SortField) (a b:Bytes):Int:=if f.Kind=1 then cmpO (dec (fld a f)) (dec (fld b f)) else if f.Kind=2 then cmpI (bin (fld a f)) (bin (fld b f)) else cmpS (fld a f) (fld b f)
def cmp1 (f:SortField) (a b:Bytes):Int:=if f.Descending=true then -cmpF f a b else cmpF f a b
def cmpL:List SortField→Bytes→Bytes→Int
  | [],_,_=>0
  | f::r,a,b=>if cmp1 f a b≠0 then cmp1 f a b else cmpL r a b
theorem cmpI_ok:Cmp cmpI:=by
  constructor
  · intro a b;unfold cmpI;split <;> split <;> omega
  · intro a b d;unfold cmpI;split <;> split <;> (try split) <;> (try split) <;> (try split) <;> (try split) <;> omega
theorem cmpO_ok:Cmp cmpO:=by
  constructor
  · intro a b
    cases a <;> cases b <;> simp only [cmpO]
    · rfl
    · rfl
    · exact cmpI_ok.anti _ _
  · intro a b d;cases a <;> cases b <;> cases d <;> simp only [cmpO] <;> first | omega | exact cmpI_ok.trans _ _ _
theorem cmpS_lt {a b:Bytes} (h:Ord.lt a b):cmpS a b = -1:=if_pos h
theorem cmpS_self (a:Bytes):cmpS a a=0:=(if_neg (Ord.irr a)).trans (if_pos rfl)
theorem cmpS_gt {a b:Bytes} (h:Ord.lt b a):cmpS a b=1:=(if_neg (Ord.asymm h)).trans (if_neg fun e=>Ord.irr a (by rw [← e] at h;exact h))
theorem cmpS_le {x y:Bytes} (h:cmpS x y≤0):Ord.lt x y∨x=y:=by
  rcases Ord.tri x y with h2 | h2 | h2
  · exact .inl h2
  · exact .inr h2
  · rw [cmpS_gt h2] at h;omega
theorem cmpS_ok:Cmp cmpS:=by
  constructor
  · intro a b
    rcases Ord.tri a b with h | h | h
    · rw [cmpS_lt h,cmpS_gt h];rfl
    · subst h;rw [cmpS_self];rfl
    · rw [cmpS_lt h,cmpS_gt h]
  · intro a b d h1 h2
    rcases cmpS_le h1 with h1 | rfl
    · rcases cmpS_le h2 with h2 | rfl
      · rw [cmpS_lt (Ord.trans h1 h2)];omega
      · rw [cmpS_lt h1];omega
    · exact h2
theorem cmp_map {α β:Type} {c:α→α→Int} (h:Cmp c) (f:β→α):Cmp fun a b=>c (f a) (f b):=⟨fun _ _=>h.anti _ _,fun _ _ _=>h.trans _ _ _⟩
theorem cmpF_ok (f:SortField):Cmp (cmpF f):=by
  by_cases h1:f.Kind=1
  · have:cmpF f=fun a b=>cmpO (dec (fld a f)) (dec (fld b f)):=by funext a b;unfold cmpF;rw [if_pos h1]
    rw [this];exact cmp_map cmpO_ok _
  · by_cases h2:f.Kind=2
    · have:cmpF f=fun a b=>cmpI (bin (fld a f)) (bin (fld b f)):=by funext a b;unfold cmpF;rw [if_neg h1,if_pos h2]
      rw [this];exact cmp_map cmpI_ok _
    · have:cmpF f=fun a b=>cmpS (fld a f) (fld b f):=by funext a b;unfold cmpF;rw [if_neg h1,if_neg h2]
      rw [this];exact cmp_map cmpS_ok _
theorem cmp1_ok (f:SortField):Cmp (cmp1 f):=by
  have h:=cmpF_ok f
  constructor
  · intro a b;unfold cmp1;have:=h.anti a b;split <;> omega
  · intro a b d;unfold cmp1;split
    · have h1:=h.trans d b a;have:=h.anti a b;have:=h.anti b d;have:=h.anti a d
      intro h2 h3;have:=h1 (by omega) (by omega);omega
    · exact h.trans a b d
theorem cmpL_ok:∀ l:List SortField,Cmp (cmpL l)
  | []=>⟨fun _ _=>rfl,fun _ _ _ _ _=>Int.le_refl 0⟩
  | f::r=>by
    have h:=cmp1_ok f
    have ih:=cmpL_ok r
    constructor
    · intro a b
      have:=h.anti a b
      unfold cmpL
      by_cases h0:cmp1 f a b=0
      · rw [if_neg (by omega),if_neg (by omega)];exact ih.anti a b
      · rw [if_pos (by omega),if_pos h0];exact this
    · intro a b d h1 h2
      unfold cmpL at *
      have t:=h.trans a b d
      by_cases h3:cmp1 f a b=0
      · rw [if_neg (by omega)] at h1
        by_cases h4:cmp1 f b d=0
        · rw [if_neg (by omega)] at h2
          have t2:=h.trans d b a (by have:=h.anti b d;omega) (by have:=h.anti a b;omega)
          have:=h.anti a d
          rw [if_neg (by have:=t (by omega) (by omega);omega)]
          exact ih.trans _ _ _ h1 h2
        · rw [if_pos h4] at h2
          have:=h.le_lt (a:=a) (b:=b) (d:=d) (by omega) (by omega)
          rw [if_pos (by omega)];omega
      · rw [if_pos h3] at h1
        have h5:cmp1 f b d≤0:=by
          by_cases h4:cmp1 f b d=0
          · omega
          · rw [if_pos h4] at h2;exact h2
        have:=h.lt_le (a:=a) (b:=b) (d:=d) (by omega) h5
        rw [if_pos (by omega)];omega
def Tri (n:Int):Prop:=n = -1∨n=0∨n=1
theorem cmpI_tri (x y:Int):Tri (cmpI x y):=by unfold cmpI Tri;split <;> (try split) <;> omega
theorem cmpO_tri (x y:Option Int):Tri (cmpO x y):=by
  cases x <;> cases y <;> simp only [cmpO]
  · exact .inr (.inl rfl)
  · exact .inl rfl
  · exact .inr (.inr rfl)
  · exact cmpI_tri _ _
theorem cmpS_tri (x y:Bytes):Tri (cmpS x y):=by unfold cmpS Tri;split <;> (try split) <;> omega
theorem cmpF_tri (f:SortField) (a b:Bytes):Tri (cmpF f a b):=by
  unfold cmpF;split
  · exact cmpO_tri _ _
  · split
    · exact cmpI_tri _ _
    · exact cmpS_tri _ _
theorem cmp1_tri (f:SortField) (a b:Bytes):Tri (cmp1 f a b):=by
  have:=cmpF_tri f a b
  unfold cmp1;split
  · unfold Tri at *;omega
  · exact this
theorem cmpL_tri:∀ (l:List SortField) (a b:Bytes),Tri (cmpL l a b)
  | [],_,_=>.inr (.inl rfl)
  | f::r,a,b=>by
    unfold cmpL;split
    · exact cmp1_tri f a b
    · exact cmpL_tri r a b
end R44
namespace R44
theorem fld_len (s:Bytes) (f:SortField):(fld s f).length=f.Length.toNat:=by unfold fld;simp
theorem rep_one (n:Nat):rep [32] n=List.replicate n 32:=by
  induction n with
  | zero=>rfl
  | succ n ih=>rw [List.replicate_succ,rep,ih];rfl
theorem sub_len (s:Bytes) (i j:Nat) (h:j≤s.length):(sub s i j).length=j-i:=by unfold sub;simp;omega
theorem fld_none {s:Bytes} {f:SortField} (h:(s.length:Int)≤f.At):[]++rep [32] (f.Length-0).toNat=fld s f:=by
  rw [rep_one,List.nil_append]
  unfold fld
  apply List.ext_getElem
  · simp
  · intro i h1 h2
    simp at h1 h2 ⊢
    rw [List.getElem?_eq_none (by omega)];rfl
theorem fld_some {s:Bytes} {f:SortField} {j:Nat} (h0:0≤f.At) (h1:1≤f.Length) (h:f.At<(s.length:Int)) (hj:(j:Int)=min (s.length:Int) (f.At+f.Length)):sub s f.At.toNat j++rep [32] (f.Length-((sub s f.At.toNat j).length:Nat)).toNat=fld s f:=by
  have hjl:j≤s.length:=by omega
  rw [rep_one,sub_len s _ _ hjl]
  unfold fld sub
  apply List.ext_getElem
  · simp;omega
  · intro i h2 h3
    simp at h3
    rw [List.getElem_append]
    split
    · rename_i h4
      simp at h4
      simp
      rw [List.getElem?_eq_getElem (by omega)];rfl
    · rename_i h4
      simp at h4
      simp
      rw [List.getElem?_eq_none (by omega)];rfl
def fldN (s:Bytes) (a k:Nat):Bytes:=(List.range k).map fun j=>s.getD (a+j) 32
theorem drop_cons {α:Type} {l:List α} {k:Nat} {d:α} (h:k<l.length):l.drop k=l.getD k d::l.drop (k+1):=by
  rw [List.drop_eq_getElem_cons h,List.getD_eq_getElem?_getD,List.getElem?_eq_getElem h];rfl
theorem num_step {l:Bytes} {k:Nat} {n:Int} (hk:k<l.length) (h1:48≤(l.getD k 0).toNat) (h2:(l.getD k 0).toNat≤57):num (l.drop k) n=num (l.drop (k+1)) (10*n+(((l.getD k 0).toNat:Int)-48)):=by
  rw [drop_cons (d:=0) hk,num,if_pos ⟨h1,h2⟩]
theorem num_bad {l:Bytes} {k:Nat} {n:Int} (hk:k<l.length) (h:¬ (48≤(l.getD k 0).toNat∧(l.getD k 0).toNat≤57)):num (l.drop k) n=none:=by
  rw [drop_cons (d:=0) hk,num,if_neg h]
theorem num_end {l:Bytes} {k:Nat} {n:Int} (hk:l.length≤k):num (l.drop k) n=some n:=by rw [List.drop_of_length_le hk];rfl
theorem pow_step {n:Int} {k:Nat} {c:UInt8} (h0:0≤n) (h:n<10 ^ k) (h1:48≤c.toNat) (h2:c.toNat≤57):0≤10*n+((c.toNat:Int)-48)∧10*n+((c.toNat:Int)-48)<10 ^ (k+1):=by
  rw [Int.pow_succ];omega
theorem pow_le {k:Nat} (h:k≤18):(10:Int) ^ k≤1000000000000000000:=by
  have:(10:Nat) ^ k≤10 ^ 18:=Nat.pow_le_pow_right (by decide) h
  have h2:((10 ^ k:Nat):Int)≤((10 ^ 18:Nat):Int):=by exact_mod_cast this
  simpa using h2
theorem sub48 {c:UInt8} (h:48≤c.toNat):((c-48).toNat:Int)=(c.toNat:Int)-48:=by
  rw [UInt8.toNat_sub_of_le _ _ (by rw [UInt8.le_iff_toNat_le];exact h)]
  show ((c.toNat-48:Nat):Int)=_
  omega
def isDig (c:UInt8):Bool:=decide (48≤c.toNat)&&decide (c.toNat≤57)
def val (l:Bytes):Int:=l.foldl (fun n c=>10*n+((c.toNat:Int)-48)) 0
theorem num_val:∀ (l:Bytes) (n:Int),(∀ c∈l,isDig c=true)→num l n=some (l.foldl (fun n c=>10*n+((c.toNat:Int)-48)) n)
  | [],_,_=>rfl
  | c::l,n,h=>by
    have h1:=h c List.mem_cons_self
    unfold isDig at h1
    simp only [Bool.and_eq_true,decide_eq_true_eq] at h1
    rw [num,if_pos h1,num_val l _ fun d hd=>h d (List.mem_cons_of_mem _ hd)];rfl
theorem num_all:∀ (l:Bytes) (n:Int),(num l n).isSome=true → ∀ c∈l,isDig c=true
  | [],_,_,_,h=>by cases h
  | d::l,n,h,c,hc=>by
    rw [num] at h
    split at h
    · rename_i hd
      rcases List.mem_cons.1 hc with rfl | hc
      · unfold isDig;simp only [Bool.and_eq_true,decide_eq_true_eq];exact hd
      · exact num_all l _ h c hc
    · cases h
theorem trimL_len (s:Bytes):(trimL s).length≤s.length:=(List.dropWhile_sublist _).length_le
theorem trimR_len (s:Bytes):(trimR s).length≤s.length:=by
  unfold trimR;rw [List.length_reverse]
  have:=(List.dropWhile_sublist (l:=s.reverse) (· == (32:UInt8))).length_le
  rwa [List.length_reverse] at this
theorem trimR_app {l m:Bytes} (hm:∀ c∈m,c=32):trimR (l++m)=trimR l:=by
  unfold trimR
  congr 1
  rw [List.reverse_append]
  have:∀ (x y:Bytes),(∀ c∈x,c=32)→(x++y).dropWhile (· == 32)=y.dropWhile (· == 32):=by
    intro x y hx
    induction x with
    | nil=>rfl
    | cons c x ih =>
      rw [List.cons_append,List.dropWhile_cons,if_pos (by simpa using hx c List.mem_cons_self)]
      exact ih fun d hd=>hx d (List.mem_cons_of_mem _ hd)
  exact this _ _ fun c hc=>hm c (List.mem_reverse.1 hc)
theorem trimR_id {l:Bytes} {c:UInt8} (hc:c≠32):trimR (l++[c])=l++[c]:=by
  unfold trimR
  rw [List.reverse_append]
  show (((c::l.reverse).dropWhile _)).reverse=_
  rw [List.dropWhile_cons,if_neg (by simpa using hc)]
  simp
theorem trimL_all {m:Bytes} : trimL m=[] ↔ ∀ c∈m,c=32:=by
  unfold trimL
  induction m with
  | nil=>simp
  | cons c m ih =>
    rw [List.dropWhile_cons]
    by_cases hc:c=32
    · rw [if_pos (by simpa using hc),ih];simp [hc]
    · rw [if_neg (by simpa using hc)];simp [hc]
theorem take_blank:∀ (l:Bytes),∀ c∈l.takeWhile (· == (32:UInt8)),c=32
  | [],_,h=>by cases h
  | d::l,c,h=>by
    rw [List.takeWhile_cons] at h
    split at h
    · rename_i hd
      rcases List.mem_cons.1 h with rfl | h
      · simpa using hd
      · exact take_blank l c h
    · cases h
theorem trimR_split (l:Bytes):∃ m,l=trimR l++m∧(∀ c∈m,c=32)∧(trimR l=[] ∨ ∃ t c,trimR l=t++[c]∧c≠32):=by
  have h:=List.takeWhile_append_dropWhile (p:=(· == (32:UInt8))) (l:=l.reverse)
  refine ⟨(l.reverse.takeWhile (· == 32)).reverse,?_,?_,?_⟩
  · unfold trimR
    rw [← List.reverse_append,h,List.reverse_reverse]
  · intro c hc
    exact take_blank _ c (List.mem_reverse.1 hc)
  · unfold trimR
    cases hd:l.reverse.dropWhile (· == 32) with
    | nil=>exact .inl rfl
    | cons c t =>
      refine .inr ⟨t.reverse,c,by rw [List.reverse_cons],?_⟩
      have:=List.head_dropWhile_not (p:=(· == (32:UInt8))) (l:=l.reverse) (by rw [hd];simp)
      simp only [hd,List.head_cons] at this
      simpa using this
theorem dec_pos {u D r:Bytes} (hD:∀ c∈D,isDig c=true) (hr:∀ c,r.head? = some c→isDig c=false) (hu:u=D++r) (hn:D≠[]):(if trimR u=[] then none else num (trimR u) 0)=if trimL r=[] then some (val D) else none:=by
  have hd32:∀ c:UInt8,isDig c=true→c≠32:=by intro c hc e;subst e;revert hc;decide
  subst hu
  by_cases hb:trimL r=[]
  · rw [if_pos hb,trimR_app (trimL_all.1 hb)]
    obtain ⟨t,c,rfl⟩:∃ t c,D=t++[c]:=⟨D.dropLast,D.getLast hn,(List.dropLast_concat_getLast hn).symm⟩
    rw [trimR_id (hd32 c (hD c (by simp))),if_neg (by simp),num_val _ _ hD];rfl
  · rw [if_neg hb]
    obtain ⟨m,h1,h2,h3⟩:=trimR_split (D++r)
    split
    · rfl
    · -- what is left has a byte behind the digits that is none
      cases hx:num (trimR (D++r)) 0 with
      | none=>rfl
      | some x =>
        exfalso
        have hall:=num_all _ _ (by rw [hx];rfl)
        have hlen:¬ (trimR (D++r)).length≤D.length:=fun hle=>by
          refine hb (trimL_all.2 fun c hc=>h2 c ?_)
          have e:r=(D++r).drop D.length:=by simp
          rw [e,h1,List.drop_append] at hc
          rcases List.mem_append.1 hc with hc | hc
          · rw [List.drop_of_length_le hle] at hc;cases hc
          · exact List.mem_of_mem_drop hc
        cases hrr:r with
        | nil=>rw [hrr] at hb;exact hb rfl
        | cons c t =>
          have hc0:=hr c (by rw [hrr];rfl)
          have hmem:c∈trimR (D++r):=by
            have e1:(D++r)[D.length]? = some c:=by rw [hrr];simp
            rw [h1,List.getElem?_append_left (by omega)] at e1
            exact List.mem_of_getElem? e1
          have:=hall c hmem
          rw [hc0] at this;cases this
def RefNum (s:Bytes) (n:Int) (ok:Bool):Prop:=ok=(dec s).isSome ∧ ∀ x,dec s=some x→n=x
theorem bin_one (c:UInt8):bin [c]=int8 c:=rfl
theorem bin_snoc {l:Bytes} (h:l≠[]) (c:UInt8):bin (l++[c])=256*bin l+(c.toNat:Int):=by
  unfold bin
  cases l with
  | nil=>exact absurd rfl h
  | cons d t=>simp [List.foldl_append]
theorem bin_bound:∀ (n:Nat) (l:Bytes),l.length=n+1 → -(128*256 ^ n)≤bin l∧bin l<128*256 ^ n
  | 0,l,h=>by
    obtain ⟨c,rfl⟩:=List.length_eq_one_iff.1 h
    rw [bin_one];have:=int8_lt c;simp;omega
  | n+1,l,h=>by
    have hne:l≠[]:=by intro e;subst e;simp at h
    have e:=List.dropLast_concat_getLast hne
    have hl:l.dropLast.length=n+1:=by rw [List.length_dropLast];omega
    have ih:=bin_bound n l.dropLast hl
    rw [← e,bin_snoc (by intro e2;rw [e2] at hl;simp at hl)]
    have:=(l.getLast hne).toNat_lt
    rw [Int.pow_succ]
    omega
theorem bin_small {l:Bytes} (h0:0<l.length) (h:l.length≤7) : -36028797018963968≤bin l∧bin l<36028797018963968:=by
  have hb:=bin_bound (l.length-1) l (by omega)
  have hp:(256:Nat) ^ (l.length-1)≤256 ^ 6:=Nat.pow_le_pow_right (by decide) (by omega)
  have h2:((256 ^ (l.length-1):Nat):Int)≤((256 ^ 6:Nat):Int):=by exact_mod_cast hp
  have h3:((256 ^ (l.length-1):Nat):Int)=(256:Int) ^ (l.length-1):=by simp
  rw [h3] at h2
  have h4:((256 ^ 6:Nat):Int)=281474976710656:=by decide
  omega
theorem take_snoc {α:Type} {l:List α} {k:Nat} {d:α} (h:k<l.length):l.take (k+1)=l.take k++[l.getD k d]:=by
  rw [List.take_succ_eq_append_getElem h,List.getD_eq_getElem?_getD,List.getElem?_eq_getElem h];rfl
theorem bin_step {l:Bytes} {k:Nat} (h0:0<k) (h:k<l.length):bin (l.take (k+1))=256*bin (l.take k)+((l.getD k 0).toNat:Int):=by
  rw [take_snoc (d:=0) h,bin_snoc (by intro e;have:=congrArg List.length e;rw [List.length_take,List.length_nil] at this;omega)]
theorem cmpO_ss {a b:Option Int} (h:a.isSome=true) (h2:b.isSome=true):cmpO a b=cmpI (a.getD 0) (b.getD 0):=by cases a <;> cases b <;> first | cases h;done | cases h2;done | rfl
theorem cmpO_sn {a b:Option Int} (h:a.isSome=true) (h2:b.isSome=false):cmpO a b=1:=by cases a <;> cases b <;> first | cases h;done | cases h2;done | rfl
theorem cmpO_ns {a b:Option Int} (h:a.isSome=false) (h2:b.isSome=true):cmpO a b = -1:=by cases a <;> cases b <;> first | cases h;done | cases h2;done | rfl
theorem cmpO_nn {a b:Option Int} (h:a.isSome=false) (h2:b.isSome=false):cmpO a b=0:=by cases a <;> cases b <;> first | cases h;done | cases h2;done | rfl
theorem getD_pad {l:Bytes} {z k:Nat} (h:k<l.length):(l++List.replicate z (0:UInt8)).getD k 0=l.getD k 0:=by
  rw [List.getD_eq_getElem?_getD,List.getElem?_append_left h,← List.getD_eq_getElem?_getD]
theorem digP {c:UInt8} (h:(decide (c<48)||decide ((57:UInt8)<c))=false):48≤c.toNat∧c.toNat≤57∧((c-48).toNat:Int)=(c.toNat:Int)-48:=by
  simp only [Bool.or_eq_false_iff,decide_eq_false_iff_not,UInt8.lt_iff_toNat_lt,UInt8.reduceToNat] at h
  exact ⟨by omega,by omega,sub48 (by omega)⟩
theorem digN {c:UInt8} (h:(decide (c<48)||decide ((57:UInt8)<c))=true):¬ (48≤c.toNat∧c.toNat≤57):=by
  simp only [Bool.or_eq_true,decide_eq_true_eq,UInt8.lt_iff_toNat_lt,UInt8.reduceToNat] at h
  omega
theorem num_stepP {l:Bytes} {z k:Nat} {n:Int} (hk:k<l.length) (h1:48≤((l++List.replicate z (0:UInt8)).getD k 0).toNat) (h2:((l++List.replicate z (0:UInt8)).getD k 0).toNat≤57):num (l.drop (k+1)) (10*n+(((l++List.replicate z (0:UInt8)).getD k 0-48).toNat:Int))=num (l.drop k) n:=by
  rw [getD_pad hk] at *
  rw [sub48 h1,num_step hk h1 h2]
theorem num_badP {l:Bytes} {z k:Nat} {n m:Int} (h0:num (l.drop k) n=num l m) (hk:k<l.length) (h:¬ (48≤((l++List.replicate z (0:UInt8)).getD k 0).toNat∧((l++List.replicate z (0:UInt8)).getD k 0).toNat≤57)):num l m=none:=by
  rw [getD_pad hk] at h
  rw [← h0,num_bad hk h]
theorem num_endP {l:Bytes} {k:Nat} {n m:Int} (h0:num (l.drop k) n=num l m) (hk:l.length≤k):num l m=some n:=by rw [← h0,num_end hk]
theorem pow_stepP {n:Int} {k:Nat} {c:UInt8} (h0:0≤n) (h:n<10 ^ k) (h1:48≤c.toNat) (h2:c.toNat≤57):0≤10*n+((c-48).toNat:Int)∧10*n+((c-48).toNat:Int)<10 ^ (k+1):=by
  rw [sub48 h1];exact pow_step h0 h h1 h2
theorem bin_stepP {l:Bytes} {z k:Nat} (hk:k<l.length-1) (hl:0<l.length) {n:Int} (h:n=bin (l.take (k+1))):n*2 ^ 8+(((sub l 1 l.length++List.replicate z (0:UInt8)).getD k 0).toNat:Int)=bin (l.take (k+1+1)):=by
  have e:(sub l 1 l.length++List.replicate z (0:UInt8)).getD k 0=l.getD (k+1) 0:=by
    rw [getD_pad (by rw [sub_len _ _ _ (Nat.le_refl _)];omega)]
    unfold sub
    rw [List.take_length,List.getD_eq_getElem?_getD,List.getElem?_drop,List.getD_eq_getElem?_getD,Nat.add_comm 1 k]
  rw [e,bin_step (by omega) (by omega),h]
  omega
theorem pow_or {k:Nat} (h:k≤18):(10:Int) ^ k≤1000000000000000000∧(k=18∨(10:Int) ^ k≤100000000000000000):=by
  refine ⟨pow_le h,?_⟩
  by_cases e:k=18
  · exact .inl e
  · have:(10:Nat) ^ k≤10 ^ 17:=Nat.pow_le_pow_right (by decide) (by omega)
    have h2:((10 ^ k:Nat):Int)≤((10 ^ 17:Nat):Int):=by exact_mod_cast this
    exact .inr (by simpa using h2)
theorem bin_or {s:Bytes} {k:Nat} (h0:0<s.length) (h8:s.length≤8):s.length-1≤k∨(-36028797018963968≤bin (s.take (k+1))∧bin (s.take (k+1))<36028797018963968):=by
  by_cases h:s.length-1≤k
  · exact .inl h
  · exact .inr (bin_small (by rw [List.length_take];omega) (by rw [List.length_take];omega))
theorem bin_first {s:Bytes} (h:0<s.length):int8 (s.getD 0 0)=bin (s.take (0+1)):=by
  cases s with
  | nil=>simp at h
  | cons c t=>rfl
theorem sub_snoc {s:Bytes} {j i:Nat} (hj:j≤i) (hi:i<s.length):sub s j (i+1)=sub s j i++[s.getD i 0]:=by
  unfold sub
  rw [take_snoc (d:=0) hi,List.drop_append_of_le_length (by rw [List.length_take];omega)]
theorem sub_none (s:Bytes) (i:Nat):sub s i i=[]:=by unfold sub;exact List.drop_of_length_le (by rw [List.length_take];omega)
theorem cmpL_step {l:List SortField} {k:Nat} {a b:Bytes} (hk:k<l.length):cmpL (l.drop k) a b=if cmp1 (l.getD k default) a b≠0 then cmp1 (l.getD k default) a b else cmpL (l.drop (k+1)) a b:=by
  rw [drop_cons (d:=default) hk,cmpL]
theorem cmpL_go {l:List SortField} {k:Nat} {a b:Bytes} (hk:k<l.length) (h:cmpL (l.drop k) a b=cmpL l a b) (h0:cmp1 (l.getD k default) a b=0):cmpL (l.drop (k+1)) a b=cmpL l a b:=by
  rw [← h,cmpL_step hk,if_neg (by omega)]
theorem cmpL_hit {l:List SortField} {k:Nat} {a b:Bytes} (hk:k<l.length) (h:cmpL (l.drop k) a b=cmpL l a b) (h0:cmp1 (l.getD k default) a b≠0):cmp1 (l.getD k default) a b=cmpL l a b:=by
  rw [← h,cmpL_step hk,if_pos h0]
theorem cmpL_end {l:List SortField} {k:Nat} {a b:Bytes} (hk:l.length≤k) (h:cmpL (l.drop k) a b=cmpL l a b):0=cmpL l a b:=by
  rw [← h,List.drop_of_length_le hk];rfl
section
variable {f:SortField} {a b:Bytes}
theorem cmpF_bd (f:SortField) (a b:Bytes) : -1≤cmpF f a b∧cmpF f a b≤1:=by have:=cmpF_tri f a b;unfold Tri at this;omega
theorem cmpL_bd (l:List SortField) (a b:Bytes) : -1≤cmpL l a b∧cmpL l a b≤1:=by have:=cmpL_tri l a b;unfold Tri at this;omega
theorem cmpI_bd (x y:Int) : -1≤cmpI x y∧cmpI x y≤1:=by have:=cmpI_tri x y;unfold Tri at this;omega
theorem cf_ss (hk:f.Kind=1) (h:(dec (fld a f)).isSome=true) (h2:(dec (fld b f)).isSome=true):cmpI ((dec (fld a f)).getD 0) ((dec (fld b f)).getD 0)=cmpF f a b:=by unfold cmpF;rw [if_pos hk,cmpO_ss h h2]
theorem cf_sn (hk:f.Kind=1) (h:(dec (fld a f)).isSome=true) (h2:(dec (fld b f)).isSome=false):1=cmpF f a b:=by unfold cmpF;rw [if_pos hk,cmpO_sn h h2]
theorem cf_ns (hk:f.Kind=1) (h:(dec (fld a f)).isSome=false) (h2:(dec (fld b f)).isSome=true) : -1=cmpF f a b:=by unfold cmpF;rw [if_pos hk,cmpO_ns h h2]
theorem cf_nn (hk:f.Kind=1) (h:(dec (fld a f)).isSome=false) (h2:(dec (fld b f)).isSome=false):0=cmpF f a b:=by unfold cmpF;rw [if_pos hk,cmpO_nn h h2]
theorem cf_2 (hk:¬ f.Kind=1) (hk2:f.Kind=2):cmpI (bin (fld a f)) (bin (fld b f))=cmpF f a b:=by unfold cmpF;rw [if_neg hk,if_pos hk2]
theorem cf_0 (hk:¬ f.Kind=1) (hk2:¬ f.Kind=2):cmpS (fld a f) (fld b f)=cmpF f a b:=by unfold cmpF;rw [if_neg hk,if_neg hk2]
theorem cf_lt (hk:¬ f.Kind=1) (hk2:¬ f.Kind=2) (h:Op.bytesLess (fld a f) (fld b f)=true) : -1=cmpF f a b:=by rw [← cf_0 hk hk2];exact (if_pos h).symm
theorem cf_gt (hk:¬ f.Kind=1) (hk2:¬ f.Kind=2) (h:Op.bytesLess (fld a f) (fld b f)=false) (h2:fld a f≠fld b f):1=cmpF f a b:=by rw [← cf_0 hk hk2];exact ((if_neg (by rw [h];decide)).trans (if_neg h2)).symm
theorem cf_eq (hk:¬ f.Kind=1) (hk2:¬ f.Kind=2) (h:Op.bytesLess (fld a f) (fld b f)=false) (h2:fld a f=fld b f):0=cmpF f a b:=by rw [← cf_0 hk hk2];exact ((if_neg (by rw [h];decide)).trans (if_pos h2)).symm
variable {n m:Int} {o q:Bool}
end
def cmpV (l:List SortField) (a b:Bytes):Int:=if valid l=true then cmpL l a b else 0
theorem cmpV_bd (l:List SortField) (a b:Bytes) : -1≤cmpV l a b∧cmpV l a b≤1:=by
  unfold cmpV;split
  · exact cmpL_bd l a b
  · omega
theorem most_look (k:Int):(lk [((0:Int),vI 200),(1,vI 18),(2,vI 8)] k).getD (vI 0)=vI (most k):=by
  unfold most
  by_cases h0:k=0
  · subst h0;rfl
  · rw [if_neg h0]
    by_cases h1:k=1
    · subst h1;rfl
    · rw [if_neg h1]
      by_cases h2:k=2
      · subst h2;rfl
      · rw [if_neg h2]
        unfold lk;rw [if_neg h0];unfold lk;rw [if_neg h1];unfold lk;rw [if_neg h2];rfl
theorem fok_bad {f:SortField} (h:¬ (0≤f.At∧f.At≤1000∧1≤f.Length∧f.Length≤most f.Kind∧f.At+f.Length≤1000)):fok f=false:=by
  rw [Bool.eq_false_iff];intro h2;exact h (fok_facts h2)
theorem fok_good {f:SortField} (h:0≤f.At∧f.At≤1000∧1≤f.Length∧f.Length≤most f.Kind∧f.At+f.Length≤1000):fok f=true:=by
  unfold fok;simp only [Bool.and_eq_true,decide_eq_true_eq];omega
theorem getD_mem {α:Type} {l:List α} {k:Nat} {d:α} (hk:k<l.length):l.getD k d∈l:=by
  rw [List.getD_eq_getElem?_getD,List.getElem?_eq_getElem hk];exact List.getElem_mem hk
theorem valid_bad {l:List SortField} {k:Nat} (hk:k<l.length) (h:fok (l.getD k default)=false):valid l=false:=by
  rw [Bool.eq_false_iff];intro h2
  rw [(valid_facts h2).2 k hk] at h;cases h
theorem valid_end {l:List SortField} (h:∀ i,i<l.length→fok (l.getD i default)=true):valid l=decide ((l.length:Int)≤8):=by
  unfold valid
  rw [show l.all fok=true from List.all_eq_true.2 fun x hx=>by
    obtain ⟨i,hi,rfl⟩:=List.mem_iff_getElem.1 hx
    have:=h i hi
    rwa [List.getD_eq_getElem?_getD,List.getElem?_eq_getElem hi] at this,Bool.true_and]
end R44
end Go.Proofs.YtggobegaiijhhaaGreatDoor
namespace Go.Proofs.YtggobegaiijhhaaGreatDoor
open Go.GV
namespace Hp
open Srt (Cmp)
variable {α:Type} {c:α→α→Int}
def orL:List Int→Int
  | []=>0
  | x::r=>if x≠0 then x else orL r
theorem or_go {l:List Int} {k:Nat} (hk:k<l.length) (h:orL (l.drop k)=orL l) (h0:l.getD k 0=0):orL (l.drop (k+1))=orL l:=by
  rw [← h,R44.drop_cons (d:=0) hk,orL,if_neg (by omega)]
theorem or_hit {l:List Int} {k:Nat} (hk:k<l.length) (h:orL (l.drop k)=orL l) (h0:l.getD k 0≠0):l.getD k 0=orL l:=by
  rw [← h,R44.drop_cons (d:=0) hk,orL,if_pos h0]
theorem or_end {l:List Int} {k:Nat} (hk:l.length≤k) (h:orL (l.drop k)=orL l):0=orL l:=by rw [← h,List.drop_of_length_le hk];rfl
theorem or_cmp {β:Type} {c d:β→β→Int} (h:Cmp c) (k:Cmp d):Cmp fun p q=>if c p q≠0 then c p q else d p q:=by
  constructor
  · intro a b
    have:=h.anti a b
    by_cases h0:c a b=0
    · rw [if_neg (by omega),if_neg (by omega)];exact k.anti a b
    · rw [if_pos (by omega),if_pos h0];exact this
  · intro a b d' h1 h2
    have t:=h.trans a b d'
    replace h1:(if c a b≠0 then c a b else d a b)≤0:=h1
    replace h2:(if c b d'≠0 then c b d' else d b d')≤0:=h2
    show (if c a d'≠0 then c a d' else d a d')≤0
    by_cases h3:c a b=0
    · rw [if_neg (by omega)] at h1
      by_cases h4:c b d'=0
      · rw [if_neg (by omega)] at h2
        have t2:=h.trans d' b a (by have:=h.anti b d';omega) (by have:=h.anti a b;omega)
        have:=h.anti a d'
        rw [if_neg (by have:=t (by omega) (by omega);omega)]
        exact k.trans _ _ _ h1 h2
      · rw [if_pos h4] at h2
        have:=h.le_lt (a:=a) (b:=b) (d:=d') (by omega) (by omega)
        rw [if_pos (by omega)];omega
    · rw [if_pos h3] at h1
      have h5:c b d'≤0:=by
        by_cases h4:c b d'=0
        · omega
        · rw [if_pos h4] at h2;exact h2
      have:=h.lt_le (a:=a) (b:=b) (d:=d') (by omega) h5
      rw [if_pos (by omega)];omega
def ec (l:List SortField) (p q:element):Int:=orL [R44.cmpI p.run q.run,R44.cmpL l p.record q.record,R44.cmpI p.no q.no]
theorem ec_ok (l:List SortField):Cmp (ec l):=by
  have h1:Cmp fun p q:element=>R44.cmpI p.run q.run:=R44.cmp_map R44.cmpI_ok element.run
  have h2:Cmp fun p q:element=>R44.cmpL l p.record q.record:=R44.cmp_map (R44.cmpL_ok l) element.record
  have h3:Cmp fun p q:element=>R44.cmpI p.no q.no:=R44.cmp_map R44.cmpI_ok element.no
  have:=or_cmp h1 (or_cmp h2 h3)
  refine ⟨fun a b=>?_,fun a b d=>?_⟩
  · have e:=this.anti a b
    unfold ec orL orL orL orL
    simp only [ne_eq] at e ⊢
    by_cases e3:R44.cmpI a.no b.no=0 <;> by_cases e4:R44.cmpI b.no a.no=0 <;> simp_all
  · have e:=this.trans a b d
    have key:∀ p q:element,ec l p q=if R44.cmpI p.run q.run≠0 then R44.cmpI p.run q.run else if R44.cmpL l p.record q.record≠0 then R44.cmpL l p.record q.record else R44.cmpI p.no q.no:=fun p q=>by
      unfold ec orL orL orL orL
      by_cases e3:R44.cmpI p.no q.no=0 <;> simp_all
    rw [key,key,key];exact e
def Heap (c:α→α→Int) (d:α) (ys:List α):Prop:=∀ j,0<j→j<ys.length→c (ys.getD ((j-1) / 2) d) (ys.getD j d)≤0
theorem heap_min (h:Cmp c) {d:α} {ys:List α} (hh:Heap c d ys):∀ j,j<ys.length→c (ys.getD 0 d) (ys.getD j d)≤0:=by
  intro j
  induction j using Nat.strongRecOn with
  | _ j ih =>
    intro hj
    by_cases h0:j=0
    · subst h0;rw [h.self];omega
    · exact h.trans _ _ _ (ih ((j-1) / 2) (by omega) (by omega)) (hh j (by omega) hj)
def swap (ys:List α) (d:α) (i k:Nat):List α:=(ys.set i (ys.getD k d)).set k (ys.getD i d)
theorem swap_len (ys:List α) (d:α) (i k:Nat):(swap ys d i k).length=ys.length:=by unfold swap;rw [List.length_set,List.length_set]
theorem getD_lt {ys:List α} {d:α} {i:Nat} (h:i<ys.length):ys.getD i d=ys[i]:=by rw [List.getD_eq_getElem?_getD,List.getElem?_eq_getElem h];rfl
theorem swap_perm {ys:List α} {d:α} {i k:Nat} (hi:i<ys.length) (hk:k<ys.length):(swap ys d i k).Perm ys:=by
  unfold swap
  rw [getD_lt hi,getD_lt hk]
  exact List.set_set_perm hi hk
theorem set_getD {ys:List α} {d x:α} {i j:Nat} (hi:i<ys.length):(ys.set i x).getD j d=if i=j then x else ys.getD j d:=by
  rw [List.getD_eq_getElem?_getD,List.getElem?_set]
  by_cases h:i=j
  · subst h;rw [if_pos rfl,if_pos rfl,if_pos hi];rfl
  · rw [if_neg h,if_neg h,← List.getD_eq_getElem?_getD]
theorem swap_at {ys:List α} {d:α} {i k:Nat} (hi:i<ys.length) (hk:k<ys.length) (j:Nat):(swap ys d i k).getD j d=if j=k then ys.getD i d else if j=i then ys.getD k d else ys.getD j d:=by
  unfold swap
  rw [set_getD (by rw [List.length_set];exact hk),set_getD hi]
  by_cases h1:k=j
  · rw [if_pos h1,if_pos h1.symm]
  · rw [if_neg h1,if_neg (show ¬ j=k from fun e=>h1 e.symm)]
    by_cases h2:i=j
    · rw [if_pos h2,if_pos h2.symm]
    · rw [if_neg h2,if_neg (show ¬ j=i from fun e=>h2 e.symm)]
structure Up (c:α→α→Int) (d:α) (ys:List α) (i:Nat):Prop where
  lt:i<ys.length
  ok:∀ j,0<j→j<ys.length→j≠i→c (ys.getD ((j-1) / 2) d) (ys.getD j d)≤0
  below:0<i → ∀ j,0<j→j<ys.length→(j-1) / 2=i→c (ys.getD ((i-1) / 2) d) (ys.getD j d)≤0
theorem up_start {d:α} {ys:List α} (h:Heap c d ys) (x:α):Up c d (ys++[x]) ys.length:=by
  have hl:(ys++[x]).length=ys.length+1:=by simp
  have ha:∀ j,j<ys.length→(ys++[x]).getD j d=ys.getD j d:=fun j hj=>by rw [List.getD_eq_getElem?_getD,List.getElem?_append_left hj,← List.getD_eq_getElem?_getD]
  refine ⟨by omega,fun j h0 hj hne=>?_,fun h0 j hj hjl hp=>by omega⟩
  rw [ha _ (by omega),ha _ (by omega)]
  exact h j h0 (by omega)
theorem up_step (h:Cmp c) {d:α} {ys:List α} {i:Nat} (hu:Up c d ys i) (h0:0<i) (hlt:c (ys.getD i d) (ys.getD ((i-1) / 2) d)<0):Up c d (swap ys d i ((i-1) / 2)) ((i-1) / 2):=by
  have hi:=hu.lt
  have hk:(i-1) / 2<ys.length:=by omega
  have hki:(i-1) / 2≠i:=by omega
  refine ⟨by rw [swap_len];exact hk,fun j hj hjl hne=>?_,fun hp j hj hjl hjp=>?_⟩
  · rw [swap_len] at hjl
    rw [swap_at hi hk,swap_at hi hk]
    by_cases e1:j=i
    · subst e1
      rw [if_pos rfl,if_neg hki.symm,if_pos rfl];omega
    · rw [if_neg hne,if_neg e1]
      by_cases e2:(j-1) / 2=(i-1) / 2
      · rw [if_pos e2]
        have h1:=hu.ok j hj hjl e1
        rw [e2] at h1
        exact h.trans _ _ _ (by omega) h1
      · rw [if_neg e2]
        by_cases e3:(j-1) / 2=i
        · rw [if_pos e3]
          exact hu.below h0 j hj hjl e3
        · rw [if_neg e3];exact hu.ok j hj hjl e1
  · rw [swap_len] at hjl
    rw [swap_at hi hk,swap_at hi hk]
    rw [if_neg (by omega),if_neg (by omega)]
    have h1:=hu.ok ((i-1) / 2) hp hk hki
    by_cases e1:j=i
    · subst e1;rw [if_neg hki.symm,if_pos rfl];exact h1
    · rw [if_neg (by omega),if_neg e1]
      have h2:=hu.ok j hj hjl e1
      rw [hjp] at h2
      exact h.trans _ _ _ h1 h2
theorem up_end (h:Cmp c) {d:α} {ys:List α} {i:Nat} (hu:Up c d ys i) (he:0<i→¬ c (ys.getD i d) (ys.getD ((i-1) / 2) d)<0):Heap c d ys:=by
  intro j hj hjl
  by_cases e:j=i
  · subst e;have:=he hj;have:=h.anti (ys.getD j d) (ys.getD ((j-1) / 2) d);omega
  · exact hu.ok j hj hjl e
structure Down (c:α→α→Int) (d:α) (ys:List α) (i:Nat):Prop where
  ok:∀ j,0<j→j<ys.length→(j-1) / 2≠i→c (ys.getD ((j-1) / 2) d) (ys.getD j d)≤0
  below:0<i → ∀ j,0<j→j<ys.length→(j-1) / 2=i→c (ys.getD ((i-1) / 2) d) (ys.getD j d)≤0
theorem down_start {d:α} {ys:List α} (h:Heap c d ys) (h0:0<ys.length):Down c d ((ys.set 0 (ys.getD (ys.length-1) d)).take (ys.length-1)) 0:=by
  have hl:((ys.set 0 (ys.getD (ys.length-1) d)).take (ys.length-1)).length=ys.length-1:=by rw [List.length_take,List.length_set];omega
  have ha:∀ j,0<j→j<ys.length-1→((ys.set 0 (ys.getD (ys.length-1) d)).take (ys.length-1)).getD j d=ys.getD j d:=fun j hj hjl=>by
    rw [List.getD_eq_getElem?_getD,List.getElem?_take,if_pos hjl,← List.getD_eq_getElem?_getD,set_getD h0,if_neg (by omega)]
  refine ⟨fun j hj hjl hne=>?_,fun hh=>by omega⟩
  rw [hl] at hjl
  rw [ha _ (by omega) (by omega),ha _ hj hjl]
  exact h j hj (by omega)
theorem down_step {d:α} {ys:List α} {i k:Nat} (hu:Down c d ys i) (hk:k<ys.length) (h0:0<k) (hki:(k-1) / 2=i) (hlt:c (ys.getD k d) (ys.getD i d)<0) (hmin:∀ j,0<j→j<ys.length→(j-1) / 2=i→c (ys.getD k d) (ys.getD j d)≤0):Down c d (swap ys d i k) k:=by
  have hi:i<ys.length:=by omega
  refine ⟨fun j hj hjl hne=>?_,fun hp j hj hjl hjp=>?_⟩
  · rw [swap_len] at hjl
    rw [swap_at hi hk,swap_at hi hk]
    by_cases e1:(j-1) / 2=i
    · rw [if_neg hne,if_pos e1]
      by_cases e2:j=k
      · subst e2;rw [if_pos rfl];omega
      · rw [if_neg e2,if_neg (by omega)]
        exact hmin j hj hjl e1
    · rw [if_neg hne,if_neg e1]
      by_cases e2:j=k
      · subst e2;exact absurd hki e1
      · rw [if_neg e2]
        by_cases e3:j=i
        · subst e3;rw [if_pos rfl]
          exact hu.below hj k h0 hk hki
        · rw [if_neg e3];exact hu.ok j hj hjl e1
  · rw [swap_len] at hjl
    rw [swap_at hi hk,swap_at hi hk]
    rw [hki,if_neg (by omega),if_pos rfl,if_neg (by omega),if_neg (by omega)]
    have:=hu.ok j hj hjl (by omega)
    rwa [hjp] at this
theorem down_end {d:α} {ys:List α} {i:Nat} (hu:Down c d ys i) (he:∀ j,0<j→j<ys.length→(j-1) / 2=i→c (ys.getD i d) (ys.getD j d)≤0):Heap c d ys:=by
  intro j hj hjl
  by_cases e:(j-1) / 2=i
  · rw [e];exact he j hj hjl e
  · exact hu.ok j hj hjl e
theorem pop_perm {d:α} {ys:List α} (h0:0<ys.length):(ys.getD 0 d::(ys.set 0 (ys.getD (ys.length-1) d)).take (ys.length-1)).Perm ys:=by
  cases ys with
  | nil=>simp at h0
  | cons x r =>
    show (x::(((x::r).getD r.length d::r).take r.length)).Perm (x::r)
    refine List.Perm.cons x ?_
    cases r with
    | nil=>exact .nil
    | cons y s =>
      rw [List.length_cons,List.take_succ_cons]
      have e:(x::y::s).getD (s.length+1) d=(y::s).getLast (by simp):=by
        rw [List.getD_eq_getElem?_getD,List.getElem?_cons_succ,List.getLast_eq_getElem,List.getElem?_eq_getElem (by simp)];simp
      rw [e]
      have e2:(y::s).take s.length=(y::s).dropLast:=by rw [List.dropLast_eq_take];rfl
      rw [e2]
      have:=List.dropLast_concat_getLast (l:=y::s) (by simp)
      refine (List.perm_append_singleton _ _).symm.trans ?_
      rw [this]
structure Kid (c:α→α→Int) (d:α) (ys:List α) (i k:Nat):Prop where
  at_:k=2*i+1∨k=2*i+2
  lt:2*i+1<ys.length→k<ys.length
  least:∀ j,0<j→j<ys.length→(j-1) / 2=i→c (ys.getD k d) (ys.getD j d)≤0
theorem kid_a {d:α} {ys:List α} {i:Nat} (h:Cmp c) (hl:2*i+1+1<ys.length) (hc:c (ys.getD (2*i+1+1) d) (ys.getD (2*i+1) d)<0):Kid c d ys i (2*i+1+1):=
  ⟨.inr rfl,fun _=>hl,fun j h0 hj hp=>by
    rcases (by omega:j=2*i+1∨j=2*i+1+1) with rfl | rfl
    · omega
    · rw [h.self];omega⟩
theorem kid_b {d:α} {ys:List α} {i:Nat} (h:Cmp c) (hc:¬ c (ys.getD (2*i+1+1) d) (ys.getD (2*i+1) d)<0):Kid c d ys i (2*i+1):=
  ⟨.inl rfl,fun h=>h,fun j h0 hj hp=>by
    rcases (by omega:j=2*i+1∨j=2*i+1+1) with rfl | rfl
    · rw [h.self];omega
    · have:=h.anti (ys.getD (2*i+1+1) d) (ys.getD (2*i+1) d);omega⟩
theorem kid_c {d:α} {ys:List α} {i:Nat} (h:Cmp c) (hl:¬ 2*i+1+1<ys.length):Kid c d ys i (2*i+1):=
  ⟨.inl rfl,fun h=>h,fun j h0 hj hp=>by
    rcases (by omega:j=2*i+1∨j=2*i+1+1) with rfl | rfl
    · rw [h.self];omega
    · omega⟩
theorem down_kid {d:α} {ys:List α} {i k:Nat} (hu:Down c d ys i) (hk:k<ys.length) (hlt:c (ys.getD k d) (ys.getD i d)<0) (m:Kid c d ys i k):Down c d ((ys.set i (ys.getD k d)).set k (ys.getD i d)) k:=
  down_step hu hk (by have:=m.at_;omega) (by have:=m.at_;omega) hlt m.least
theorem down_none {d:α} {ys:List α} {i k:Nat} (hu:Down c d ys i) (hk:ys.length≤k) (m:Kid c d ys i k):Heap c d ys:=
  down_end hu fun j h0 hj hp=>by have:=m.at_;have:=m.lt;omega
theorem down_stop (h:Cmp c) {d:α} {ys:List α} {i k:Nat} (hu:Down c d ys i) (hlt:¬ c (ys.getD k d) (ys.getD i d)<0) (m:Kid c d ys i k):Heap c d ys:=
  down_end hu fun j h0 hj hp=>h.trans _ _ _ (by have:=h.anti (ys.getD k d) (ys.getD i d);omega) (m.least j h0 hj hp)
theorem swap_perm2 {xs ys:List α} {d:α} {i k:Nat} (hi:i<ys.length) (hk:k<ys.length) (hp:ys.Perm xs):((ys.set i (ys.getD k d)).set k (ys.getD i d)).Perm xs:=(swap_perm hi hk).trans hp
theorem swap_perm3 {x:α} {xs ys:List α} {d:α} {i k:Nat} (hi:i<ys.length) (hk:k<ys.length) (hp:(x::ys).Perm xs):(x::(ys.set i (ys.getD k d)).set k (ys.getD i d)).Perm xs:=((swap_perm hi hk).cons x).trans hp
theorem swap_len2 (ys:List α) (d:α) (i k:Nat):((ys.set i (ys.getD k d)).set k (ys.getD i d)).length=ys.length:=swap_len ys d i k
theorem up_swap (h:Cmp c) {d:α} {ys:List α} {i:Nat} (hu:Up c d ys i) (h0:0<i) (hlt:c (ys.getD i d) (ys.getD ((i-1) / 2) d)<0):Up c d ((ys.set i (ys.getD ((i-1) / 2) d)).set ((i-1) / 2) (ys.getD i d)) ((i-1) / 2):=up_step h hu h0 hlt
def Rok (l:List element):Prop:=∀ e∈l,e.record.length≤1000000000
theorem Rok.perm {l m:List element} (h:Rok m) (hp:l.Perm m):Rok l:=fun e he=>h e (hp.mem_iff.1 he)
theorem Rok.snoc {l:List element} {x:element} (h:Rok l) (hx:x.record.length≤1000000000):Rok (l++[x]):=fun e he=>by
  rcases List.mem_append.1 he with h1 | h1
  · exact h e h1
  · rw [List.mem_singleton.1 h1];exact hx
theorem Rok.at_ {l:List element} (h:Rok l) {i:Nat} (hi:i<l.length):(l.getD i default).record.length≤1000000000:=by
  rw [getD_lt hi];exact h _ (List.getElem_mem hi)
theorem Rok.tail {l m:List element} {x:element} (h:Rok m) (hp:(x::l).Perm m):Rok l:=fun e he=>h e (hp.mem_iff.1 (List.mem_cons_of_mem _ he))
end Hp
namespace R44
open Srt (Cmp)
def few (l:List Bytes) (m:Int):Bool:=l.all (fun x=>decide (x.length≤60))&&decide ((l.length:Int)≤m)
def long (l:List Bytes):Bool:=l.any fun x=>decide (1000<x.length)
theorem long_hit {l:List Bytes} {i:Nat} (hi:i<l.length) (h:1000<(l.getD i []).length):true=long l:=by
  refine (List.any_eq_true.2 ⟨l.getD i [],getD_mem hi,decide_eq_true h⟩).symm
theorem long_none {l:List Bytes} (h:∀ i,i<l.length→(l.getD i []).length≤1000):false=long l:=by
  refine (Bool.eq_false_iff.2 fun h2=>?_).symm
  obtain ⟨x,hx,h3⟩:=List.any_eq_true.1 h2
  obtain ⟨i,hi,rfl⟩:=List.mem_iff_getElem.1 hx
  have:=h i hi
  rw [List.getD_eq_getElem?_getD,List.getElem?_eq_getElem hi] at this
  have:=of_decide_eq_true h3
  simp only [Option.getD_some] at *
  omega
theorem long_facts {l:List Bytes} (h:long l=false):∀ i,(l.getD i []).length≤1000:=fun i=>by
  by_cases hi:i<l.length
  · rcases Nat.lt_or_ge 1000 (l.getD i []).length with h2 | h2
    · rw [← long_hit hi h2] at h;cases h
    · exact h2
  · rw [List.getD_eq_getElem?_getD,List.getElem?_eq_none (by omega)];exact Nat.zero_le _
def inK (k:Int) (s:Bytes):Bytes × Bool:=if k=1 then (if 120∈s then ([],false) else (s,true)) else if k=2 then (s.reverse,decide (s≠[])) else (s,true)
def smK (k:Int) (a b:Bytes):Bytes × Bool:=if k=1 then (a,true) else if k=2 then (a++b,true) else if k=3 then (b,decide ((b.length:Int)≤(a.length:Int))) else ([],false)
def inputs (f:Bytes→Bytes × Bool):List Bytes→Option (List Bytes)
  | []=>some []
  | s::r=>if (f s).2=true then (if 1000<(f s).1.length then none else (inputs f r).map fun l=>(f s).1::l) else inputs f r
def inTo (f:Bytes→Bytes × Bool) (out:List Bytes) (l:List Bytes):Option (List Bytes):=(inputs f l).map fun r=>out++r
def sums (c:Bytes→Bytes→Int) (f:Bytes→Bytes→Bytes × Bool) (out:List Bytes):List Bytes→List Bytes × Int
  | []=>(out,0)
  | s::r=>if 0<out.length∧c (out.getD (out.length-1) []) s=0∧(f (out.getD (out.length-1) []) s).2=true then
      (if 1000<(f (out.getD (out.length-1) []) s).1.length then ([],8)
       else if c (f (out.getD (out.length-1) []) s).1 s≠0 then ([],9)
       else sums c f (out.set (out.length-1) (f (out.getD (out.length-1) []) s).1) r)
    else sums c f (out++[s]) r
section
variable {c:Bytes→Bytes→Int} {f:Bytes→Bytes→Bytes × Bool} {out l:List Bytes} {k:Nat} {R:List Bytes × Int}
theorem sums_nil (h:∀ a b,(f a b).2=false):∀ (l out:List Bytes),sums c f out l=(out++l,0)
  | [],out=>by rw [sums,List.append_nil]
  | s::r,out=>by rw [sums,if_neg (by rw [h];simp),sums_nil h r];simp
end
end R44
end Go.Proofs.YtggobegaiijhhaaGreatDoor
