/- Srt, Od in one text. -/
import Derived.Test.YtggobegaiijhhaaGreatDoorUtilityOnly3
set_option linter.unusedVariables false
set_option linter.unusedSimpArgs false
namespace Go.Proofs.YtggobegaiijhhaaGreatDoor
namespace Srt
structure Cmp {α:Type} (c:α→α→Int):Prop where
  anti:∀ a b,c b a = -c a b
  trans:∀ a b d,c a b≤0→c b d≤0→c a d≤0
section
variable {α β:Type} {c:α→α→Int}
theorem Cmp.self (h:Cmp c) (a:α):c a a=0:=by have:=h.anti a a;omega
theorem Cmp.le_lt (h:Cmp c) {a b d:α} (h1:c a b≤0) (h2:c b d<0):c a d<0:=by
  have h3:=h.trans a b d h1 (by omega)
  by_cases h4:c a d=0
  · have h5:=h.trans d a b (by have:=h.anti a d;omega) h1
    have:=h.anti b d;omega
  · omega
theorem Cmp.lt_le (h:Cmp c) {a b d:α} (h1:c a b<0) (h2:c b d≤0):c a d<0:=by
  have h3:=h.trans a b d (by omega) h2
  by_cases h4:c a d=0
  · have h5:=h.trans b d a h2 (by have:=h.anti a d;omega)
    have:=h.anti a b;omega
  · omega
def ins (c:α→α→Int):List α→α→List α
  | [],x=>[x]
  | y::r,x=>if c y x≤0 then y::ins c r x else x::y::r
def srt (c:α→α→Int) (l:List α):List α:=l.foldl (ins c) []
def lt (c:α→α→Int) (p q:α × Nat):Prop:=c p.1 q.1<0∨(c p.1 q.1=0∧p.2<q.2)
theorem lt_asymm (h:Cmp c) {p q:α × Nat} (h1:lt c p q) (h2:lt c q p):False:=by
  have:=h.anti p.1 q.1
  rcases h1 with h1 | h1 <;> rcases h2 with h2 | h2 <;> omega
theorem lt_le {p q:α × Nat} (h1:lt c p q):c p.1 q.1≤0:=by rcases h1 with h1 | h1 <;> omega
theorem lt_trans (h:Cmp c) {p q r:α × Nat} (h1:lt c p q) (h2:lt c q r):lt c p r:=by
  rcases h1 with h1 | ⟨h1,h3⟩
  · exact .inl (h.lt_le h1 (lt_le h2))
  · rcases h2 with h2 | ⟨h2,h4⟩
    · exact .inl (h.le_lt (by omega) h2)
    · refine .inr ⟨?_,by omega⟩
      have h5:=h.trans p.1 q.1 r.1 (by omega) (by omega)
      have h6:=h.trans r.1 q.1 p.1 (by have:=h.anti q.1 r.1;omega) (by have:=h.anti p.1 q.1;omega)
      have:=h.anti p.1 r.1;omega
theorem unique (h:Cmp c) {l m:List (α × Nat)} (hl:l.Pairwise (lt c)) (hm:m.Pairwise (lt c)) (hp:l.Perm m):l=m:=
  List.Perm.eq_of_pairwise (fun _ _ _ _ h1 h2=>(lt_asymm h h1 h2).elim) hl hm hp
theorem ins_perm:∀ (l:List α) (x:α),(ins c l x).Perm (x::l)
  | [],_=>.refl _
  | y::r,x=>by
    rw [ins];split
    · exact ((ins_perm r x).cons y).trans (.swap _ _ _)
    · exact .refl _
theorem ins_mem {l:List α} {x y:α} : y∈ins c l x↔y=x∨y∈l:=by rw [(ins_perm l x).mem_iff,List.mem_cons]
theorem foldl_perm:∀ (l m:List α),(l.foldl (ins c) m).Perm (l++m)
  | [],_=>.refl _
  | x::l,m=>((foldl_perm l _).trans ((ins_perm m x).append_left l)).trans List.perm_middle
theorem srt_perm (l:List α):(srt c l).Perm l:=by have:=foldl_perm (c:=c) l [];rwa [List.append_nil] at this
theorem srt_len (l:List α):(srt c l).length=l.length:=(srt_perm l).length_eq
theorem srt_mem {l:List α} {x:α} : x∈srt c l↔x∈l:=(srt_perm l).mem_iff
theorem srt_snoc (l:List α) (x:α):srt c (l++[x])=ins c (srt c l) x:=by unfold srt;rw [List.foldl_append];rfl
def Ordered (c:α→α→Int) (l:List α):Prop:=l.Pairwise fun a b=>c a b≤0
theorem ins_ordered (h:Cmp c):∀ {l:List α} {x:α},Ordered c l→Ordered c (ins c l x)
  | [],_,_=>List.pairwise_singleton _ _
  | y::r,x,ho=>by
    have ho':=List.pairwise_cons.1 ho
    rw [ins];split
    · rename_i hc
      refine List.pairwise_cons.2 ⟨fun z hz=>?_,ins_ordered h ho'.2⟩
      rcases ins_mem.1 hz with rfl | hz
      · exact hc
      · exact ho'.1 z hz
    · rename_i hc
      have hx:c x y≤0:=by have:=h.anti y x;omega
      refine List.pairwise_cons.2 ⟨fun z hz=>?_,ho⟩
      rcases List.mem_cons.1 hz with rfl | hz
      · exact hx
      · exact h.trans _ _ _ hx (ho'.1 z hz)
theorem foldl_ordered (h:Cmp c):∀ (l m:List α),Ordered c m→Ordered c (l.foldl (ins c) m)
  | [],_,ho=>ho
  | _::l,_,ho=>foldl_ordered h l _ (ins_ordered h ho)
theorem srt_ordered (h:Cmp c) (l:List α):Ordered c (srt c l):=foldl_ordered h l [] .nil
theorem ins_map (f:β→α):∀ (l:List β) (x:β),ins c (l.map f) (f x)=(ins (fun a b=>c (f a) (f b)) l x).map f
  | [],_=>rfl
  | y::r,x=>by
    rw [List.map_cons,ins,ins]
    split
    · rw [List.map_cons,ins_map f r x]
    · rfl
theorem foldl_map (f:β→α):∀ (l m:List β),(l.map f).foldl (ins c) (m.map f)=(l.foldl (ins fun a b=>c (f a) (f b)) m).map f
  | [],_=>rfl
  | x::l,m=>by rw [List.map_cons,List.foldl_cons,ins_map,foldl_map f l];rfl
theorem srt_map (f:β→α) (l:List β):srt c (l.map f)=(srt (fun a b=>c (f a) (f b)) l).map f:=foldl_map f l []
abbrev tc (c:α→α→Int) (p q:α × Nat):Int:=c p.1 q.1
theorem Cmp.tagged (h:Cmp c):Cmp (tc c):=⟨fun a b=>h.anti a.1 b.1,fun a b d=>h.trans a.1 b.1 d.1⟩
theorem ins_lt (h:Cmp c):∀ {l:List (α × Nat)} {x:α × Nat},l.Pairwise (lt c)→(∀ y∈l,y.2<x.2)→(ins (tc c) l x).Pairwise (lt c)
  | [],_,_,_=>List.pairwise_singleton _ _
  | y::r,x,ho,ht=>by
    have ho':=List.pairwise_cons.1 ho
    rw [ins];split
    · rename_i hc
      replace hc:c y.1 x.1≤0:=hc
      refine List.pairwise_cons.2 ⟨fun z hz=>?_,ins_lt h ho'.2 fun z hz=>ht z (List.mem_cons_of_mem _ hz)⟩
      rcases ins_mem.1 hz with rfl | hz
      · have:=ht y List.mem_cons_self
        by_cases h0:c y.1 z.1=0
        · exact .inr ⟨h0,this⟩
        · exact .inl (by omega)
      · exact ho'.1 z hz
    · rename_i hc
      replace hc:¬ c y.1 x.1≤0:=hc
      have hx:c x.1 y.1<0:=by have:=h.anti y.1 x.1;omega
      refine List.pairwise_cons.2 ⟨fun z hz=>.inl ?_,ho⟩
      rcases List.mem_cons.1 hz with rfl | hz
      · exact hx
      · exact h.lt_le hx (lt_le (ho'.1 z hz))
theorem foldl_lt (h:Cmp c):∀ (l m:List (α × Nat)),l.Pairwise (fun a b=>a.2<b.2)→(∀ x∈l,∀ y∈m,y.2<x.2)→m.Pairwise (lt c)→(l.foldl (ins (tc c)) m).Pairwise (lt c)
  | [],_,_,_,ho=>ho
  | x::l,m,hl,hm,ho=>by
    have hl':=List.pairwise_cons.1 hl
    refine foldl_lt h l _ hl'.2 (fun z hz y hy=>?_) (ins_lt h ho (hm x List.mem_cons_self))
    rcases ins_mem.1 hy with rfl | hy
    · exact hl'.1 z hz
    · exact hm z (List.mem_cons_of_mem _ hz) y hy
theorem zip_tags:∀ (l:List α) (k:Nat),(l.zipIdx k).Pairwise (fun a b=>a.2<b.2)
  | [],_=>.nil
  | x::l,k=>by
    rw [List.zipIdx_cons]
    refine List.pairwise_cons.2 ⟨fun z hz=>?_,zip_tags l (k+1)⟩
    have:=List.mem_zipIdx (x:=z.1) (i:=z.2) hz
    show k<z.2
    omega
theorem canon (h:Cmp c) {l:List α} {t:List (α × Nat)} (ht:t.Pairwise (lt c)) (hp:t.Perm l.zipIdx):t.map Prod.fst=srt c l:=by
  have h1:t=srt (tc c) l.zipIdx:=unique h ht (foldl_lt h _ [] (zip_tags l 0) (fun _ _ _ hy=>by cases hy) .nil) (hp.trans (srt_perm _).symm)
  have h2:=srt_map (c:=c) Prod.fst l.zipIdx
  rw [List.zipIdx_map_fst] at h2
  rw [h2,h1]
def hd (d:α) (l:List α):α:=l.headD d
def best (c:α→α→Int) (ls:List (List α)):Nat→Option Nat
  | 0=>none
  | k+1=>match ls.getD k [] with
    | []=>best c ls k
    | x::_=>match best c ls k with
      | none=>some k
      | some b=>match ls.getD b [] with
        | []=>some k
        | y::_=>if c x y<0 then some k else some b
theorem best_nil {ls:List (List α)} {k:Nat} (h:ls.getD k []=[]):best c ls (k+1)=best c ls k:=by rw [best,h]
theorem best_new {ls:List (List α)} {k:Nat} {x:α} {r:List α} (h:ls.getD k []=x::r) (h2:best c ls k=none):best c ls (k+1)=some k:=by rw [best,h,h2]
theorem best_lt {ls:List (List α)} {k b:Nat} {x y:α} {r s:List α} (h:ls.getD k []=x::r) (h2:best c ls k=some b) (h3:ls.getD b []=y::s) (h4:c x y<0):best c ls (k+1)=some k:=by
  rw [best,h,h2];simp only [h3];rw [if_pos h4]
theorem best_ge {ls:List (List α)} {k b:Nat} {x y:α} {r s:List α} (h:ls.getD k []=x::r) (h2:best c ls k=some b) (h3:ls.getD b []=y::s) (h4:¬ c x y<0):best c ls (k+1)=some b:=by
  rw [best,h,h2];simp only [h3];rw [if_neg h4]
def BestOk (c:α→α→Int) (ls:List (List α)) (k:Nat):Option Nat→Prop
  | none=>∀ j,j<k→ls.getD j []=[]
  | some b=>b<k ∧ ∃ x r,ls.getD b []=x::r ∧ ∀ j,j<k → ∀ y s,ls.getD j []=y::s→c x y≤0∧(j<b→c x y<0)
theorem best_spec (h:Cmp c) (ls:List (List α)):∀ k,BestOk c ls k (best c ls k)
  | 0=>fun j hj=>by omega
  | k+1=>by
    have ih:=best_spec h ls k
    cases hk:ls.getD k [] with
    | nil =>
      rw [best_nil hk]
      cases hb:best c ls k with
      | none =>
        rw [hb] at ih
        intro j hj
        by_cases hjk:j=k
        · rw [hjk,hk]
        · exact ih j (by omega)
      | some b =>
        rw [hb] at ih
        obtain ⟨h1,x,r,h2,h3⟩:=ih
        refine ⟨by omega,x,r,h2,fun j hj y s hy=>?_⟩
        by_cases hjk:j=k
        · rw [hjk,hk] at hy;cases hy
        · exact h3 j (by omega) y s hy
    | cons x r =>
      cases hb:best c ls k with
      | none =>
        rw [hb] at ih
        rw [best_new hk hb]
        refine ⟨by omega,x,r,hk,fun j hj y s hy=>?_⟩
        by_cases hjk:j=k
        · rw [hjk,hk] at hy;cases hy
          exact ⟨by rw [h.self];omega,fun hh=>by omega⟩
        · rw [ih j (by omega)] at hy;cases hy
      | some b =>
        rw [hb] at ih
        obtain ⟨h1,z,t,h2,h3⟩:=ih
        by_cases hlt:c x z<0
        · rw [best_lt hk hb h2 hlt]
          refine ⟨by omega,x,r,hk,fun j hj y s hy=>?_⟩
          by_cases hjk:j=k
          · rw [hjk,hk] at hy;cases hy
            exact ⟨by rw [h.self];omega,fun hh=>by omega⟩
          · have:=h.lt_le hlt (h3 j (by omega) y s hy).1
            exact ⟨by omega,fun _=>this⟩
        · rw [best_ge hk hb h2 hlt]
          refine ⟨by omega,z,t,h2,fun j hj y s hy=>?_⟩
          by_cases hjk:j=k
          · rw [hjk,hk] at hy;cases hy
            exact ⟨by have:=h.anti x z;omega,fun hh=>by omega⟩
          · exact h3 j (by omega) y s hy
def mergeN (c:α→α→Int):Nat→List (List α)→List α
  | 0,_=>[]
  | n+1,ls=>match best c ls ls.length with
    | none=>[]
    | some b=>match ls.getD b [] with
      | []=>[]
      | x::r=>x::mergeN c n (ls.set b r)
def total (ls:List (List α)):Nat:=ls.flatten.length
def merge (c:α→α→Int) (ls:List (List α)):List α:=mergeN c (total ls) ls
theorem getD_mem {ls:List (List α)} {b:Nat} {x:α} {r:List α} (h:ls.getD b []=x::r):b<ls.length:=by
  by_cases hb:b<ls.length
  · exact hb
  · rw [List.getD_eq_getElem?_getD,List.getElem?_eq_none (by omega)] at h;cases h
theorem set_perm:∀ {ls:List (List α)} {b:Nat} {x:α} {r:List α},ls.getD b []=x::r→ls.flatten.Perm (x::(ls.set b r).flatten)
  | [],b,x,r,h=>by cases h
  | l::ls,0,x,r,h=>by
    have h:l=x::r:=h
    subst h;exact .refl _
  | l::ls,b+1,x,r,h=>by
    have ih:=set_perm (ls:=ls) (b:=b) h
    rw [List.set_cons_succ,List.flatten_cons,List.flatten_cons]
    exact (ih.append_left l).trans List.perm_middle
theorem set_total {ls:List (List α)} {b:Nat} {x:α} {r:List α} (h:ls.getD b []=x::r):total ls=total (ls.set b r)+1:=by
  have:=(set_perm h).length_eq
  rwa [List.length_cons] at this
theorem merge_none {ls:List (List α)} (h:best c ls ls.length=none):merge c ls=[]:=by
  unfold merge
  cases total ls with
  | zero=>rfl
  | succ n=>rw [mergeN,h]
theorem merge_some {ls:List (List α)} {b:Nat} {x:α} {r:List α} (h:best c ls ls.length=some b) (hx:ls.getD b []=x::r):merge c ls=x::merge c (ls.set b r):=by
  unfold merge
  rw [set_total hx,mergeN,h]
  simp only [hx]
theorem total_zero {ls:List (List α)} (h:∀ j,j<ls.length→ls.getD j []=[]):ls.flatten=[]:=by
  rw [List.flatten_eq_nil_iff]
  intro l hl
  obtain ⟨j,hj,rfl⟩:=List.mem_iff_getElem.1 hl
  have:=h j hj
  rwa [List.getD_eq_getElem?_getD,List.getElem?_eq_getElem hj] at this
theorem mergeN_perm (h:Cmp c):∀ (n:Nat) (ls:List (List α)),total ls=n→(mergeN c n ls).Perm ls.flatten
  | 0,ls,hn=>by rw [List.length_eq_zero_iff.1 hn];exact .nil
  | n+1,ls,hn=>by
    have hs:=best_spec h ls ls.length
    rw [mergeN]
    cases hb:best c ls ls.length with
    | none =>
      rw [hb] at hs
      rw [total_zero hs]
    | some b =>
      rw [hb] at hs
      obtain ⟨h1,x,r,h2,h3⟩:=hs
      simp only [h2]
      have ht:=set_total h2
      exact ((mergeN_perm h n _ (by omega)).cons x).trans (set_perm h2).symm
theorem merge_perm (h:Cmp c) (ls:List (List α)):(merge c ls).Perm ls.flatten:=mergeN_perm h _ ls rfl
theorem merge_mem (h:Cmp c) {ls:List (List α)} {x:α} : x∈merge c ls↔x∈ls.flatten:=(merge_perm h ls).mem_iff
def Apart (c:α→α→Int) (l m:List (α × Nat)):Prop:=∀ a∈l,∀ b∈m,c a.1 b.1=0→a.2<b.2
structure Good (c:α→α→Int) (ls:List (List (α × Nat))):Prop where
  each:∀ l∈ls,l.Pairwise (lt c)
  cross:ls.Pairwise (Apart c)
theorem getD_of {ls:List (List β)} {j:Nat} (h:j<ls.length):ls.getD j []=ls[j]:=by rw [List.getD_eq_getElem?_getD,List.getElem?_eq_getElem h];rfl
theorem Good.ix {ls:List (List (α × Nat))} (h:Good c ls) {i j:Nat} (hij:i<j) {a b:α × Nat} (ha:a∈ls.getD i []) (hb:b∈ls.getD j []) (hc:c a.1 b.1=0):a.2<b.2:=by
  by_cases hj:j<ls.length
  · rw [getD_of hj] at hb
    rw [getD_of (by omega)] at ha
    exact List.pairwise_iff_getElem.1 h.cross i j (by omega) hj hij a ha b hb hc
  · rw [List.getD_eq_getElem?_getD,List.getElem?_eq_none (by omega)] at hb;cases hb
theorem Good.set {ls:List (List (α × Nat))} (h:Good c ls) {b:Nat} {x:α × Nat} {r:List (α × Nat)} (hx:ls.getD b []=x::r):Good c (ls.set b r):=by
  have hb:=getD_mem hx
  rw [getD_of hb] at hx
  constructor
  · intro l hl
    rcases List.mem_or_eq_of_mem_set hl with hl | rfl
    · exact h.each l hl
    · have:=h.each ls[b] (List.getElem_mem hb)
      rw [hx] at this
      exact (List.pairwise_cons.1 this).2
  · rw [List.pairwise_iff_getElem]
    intro i j hi hj hij
    have hc:=List.pairwise_iff_getElem.1 h.cross i j (by simpa using hi) (by simpa using hj) hij
    intro p hp q hq
    refine hc p ?_ q ?_
    · rw [List.getElem_set] at hp
      split at hp
      · rename_i hbi;subst hbi;rw [hx];exact List.mem_cons_of_mem _ hp
      · exact hp
    · rw [List.getElem_set] at hq
      split at hq
      · rename_i hbi;subst hbi;rw [hx];exact List.mem_cons_of_mem _ hq
      · exact hq
theorem mergeN_lt (h:Cmp c):∀ (n:Nat) (ls:List (List (α × Nat))),total ls=n→Good c ls→(mergeN (tc c) n ls).Pairwise (lt c)
  | 0,_,_,_=>.nil
  | n+1,ls,hn,hg=>by
    have hs:=best_spec h.tagged ls ls.length
    rw [mergeN]
    cases hb:best (tc c) ls ls.length with
    | none=>exact .nil
    | some b =>
      rw [hb] at hs
      obtain ⟨h1,x,r,h2,h3⟩:=hs
      simp only [h2]
      have ht:=set_total h2
      refine List.pairwise_cons.2 ⟨fun p hp=>?_,mergeN_lt h n _ (by omega) (hg.set h2)⟩
      have hp':=(mergeN_perm h.tagged n _ (by omega)).mem_iff.1 hp
      obtain ⟨l,hl,hpl⟩:=List.mem_flatten.1 hp'
      obtain ⟨j,hj,rfl⟩:=List.mem_iff_getElem.1 hl
      rw [List.getElem_set] at hpl
      have hjl:j<ls.length:=by simpa using hj
      by_cases hbj:b=j
      · rw [if_pos hbj] at hpl
        have:=hg.each ls[b] (List.getElem_mem h1)
        rw [← getD_of h1,h2] at this
        exact (List.pairwise_cons.1 this).1 p hpl
      · rw [if_neg hbj] at hpl
        rw [← getD_of hjl] at hpl
        cases hlj:ls.getD j [] with
        | nil=>rw [hlj] at hpl;cases hpl
        | cons y s =>
          have h4:=h3 j hjl y s hlj
          have hyp:c y.1 p.1≤0:=by
            rw [hlj] at hpl
            rcases List.mem_cons.1 hpl with rfl | hps
            · rw [h.self];omega
            · have:=hg.each ls[j] (List.getElem_mem hjl)
              rw [← getD_of hjl,hlj] at this
              exact lt_le ((List.pairwise_cons.1 this).1 p hps)
          have hxy:c x.1 y.1≤0:=h4.1
          by_cases h0:c x.1 p.1=0
          · refine .inr ⟨h0,?_⟩
            have hxy0:¬ c x.1 y.1<0:=fun hlt=>by have:=h.lt_le hlt hyp;omega
            have hbj':b<j:=by
              have:¬ j<b:=fun hjb=>hxy0 (h4.2 hjb)
              omega
            exact hg.ix hbj' (by rw [h2];exact List.mem_cons_self) hpl h0
          · have:=h.trans _ _ _ hxy hyp
            exact .inl (by omega)
theorem merge_lt (h:Cmp c) {ls:List (List (α × Nat))} (hg:Good c ls):(merge (tc c) ls).Pairwise (lt c):=mergeN_lt h _ ls rfl hg
theorem getD_map (f:β→α) (ls:List (List β)) (k:Nat):(ls.map (List.map f)).getD k []=(ls.getD k []).map f:=by
  rw [List.getD_eq_getElem?_getD,List.getD_eq_getElem?_getD,List.getElem?_map]
  cases ls[k]? <;> rfl
theorem best_map (f:β→α) (ls:List (List β)):∀ k,best c (ls.map (List.map f)) k=best (fun a b=>c (f a) (f b)) ls k
  | 0=>rfl
  | k+1=>by
    rw [best,best,getD_map]
    cases ls.getD k [] with
    | nil=>exact best_map f ls k
    | cons x r =>
      simp only [List.map_cons]
      rw [best_map f ls k]
      cases best (fun a b=>c (f a) (f b)) ls k with
      | none=>rfl
      | some b =>
        simp only
        rw [getD_map]
        cases ls.getD b [] with
        | nil=>rfl
        | cons y s=>rfl
theorem mergeN_map (f:β→α):∀ (n:Nat) (ls:List (List β)),mergeN c n (ls.map (List.map f))=(mergeN (fun a b=>c (f a) (f b)) n ls).map f
  | 0,_=>rfl
  | n+1,ls=>by
    rw [mergeN,mergeN,List.length_map,best_map]
    cases best (fun a b=>c (f a) (f b)) ls ls.length with
    | none=>rfl
    | some b =>
      simp only
      rw [getD_map]
      cases ls.getD b [] with
      | nil=>rfl
      | cons x r =>
        simp only [List.map_cons]
        rw [← List.map_set,mergeN_map f n]
theorem total_map (f:β→α) (ls:List (List β)):total (ls.map (List.map f))=total ls:=by
  unfold total
  rw [← List.map_flatten,List.length_map]
theorem merge_map (f:β→α) (ls:List (List β)):merge c (ls.map (List.map f))=(merge (fun a b=>c (f a) (f b)) ls).map f:=by
  unfold merge;rw [total_map,mergeN_map]
def chunksN (n:Nat):Nat→List α→List (List α)
  | 0,_=>[]
  | m+1,l=>match l with
    | []=>[]
    | x::r=>(x::r).take n::chunksN n m ((x::r).drop n)
def chunks (n:Nat) (l:List α):List (List α):=chunksN n l.length l
theorem chunksN_any {n:Nat} (hn:0<n):∀ (m m':Nat) (l:List α),l.length≤m→l.length≤m'→chunksN n m l=chunksN n m' l
  | 0,0,_,_,_=>rfl
  | 0,m'+1,[],_,_=>rfl
  | m+1,0,[],_,_=>rfl
  | m+1,m'+1,[],_,_=>rfl
  | 0,m'+1,x::r,h,_=>by simp at h
  | m+1,0,x::r,_,h=>by simp at h
  | m+1,m'+1,x::r,h,h'=>by
    rw [chunksN,chunksN,chunksN_any hn m m' ((x::r).drop n) (by simp at h ⊢;omega) (by simp at h' ⊢;omega)]
theorem chunks_nil {n:Nat} : chunks n ([]:List α)=[]:=rfl
theorem chunks_cons {n:Nat} (hn:0<n) {l:List α} (h:l≠[]):chunks n l=l.take n::chunks n (l.drop n):=by
  unfold chunks
  cases l with
  | nil=>exact absurd rfl h
  | cons x r=>rw [List.length_cons,chunksN,chunksN_any hn r.length ((x::r).drop n).length _ (by simp;omega) (Nat.le_refl _)]
theorem chunks_flat {n:Nat} (hn:0<n):∀ (m:Nat) (l:List α),l.length≤m→(chunks n l).flatten=l
  | _,[],_=>rfl
  | 0,x::r,h=>by simp at h
  | m+1,x::r,h=>by
    rw [chunks_cons hn (by simp),List.flatten_cons,chunks_flat hn m _ (by simp at h ⊢;omega),List.take_append_drop]
theorem chunks_flatten {n:Nat} (hn:0<n) (l:List α):(chunks n l).flatten=l:=chunks_flat hn _ l (Nat.le_refl _)
theorem chunks_lenN {n:Nat} (hn:0<n):∀ (m:Nat) (l:List α),l.length≤m→(chunks n l).length=(l.length+n-1) / n
  | _,[],_=>by
    rw [chunks_nil,List.length_nil,List.length_nil,Nat.zero_add]
    exact (Nat.div_eq_of_lt (by omega)).symm
  | 0,x::r,h=>by simp at h
  | m+1,x::r,h=>by
    rw [chunks_cons hn (by simp),List.length_cons,chunks_lenN hn m _ (by simp at h ⊢;omega),List.length_drop]
    rw [List.length_cons]
    by_cases hr:r.length+1≤n
    · rw [show r.length+1-n+n-1=n-1 by omega,Nat.div_eq_of_lt (by omega),show r.length+1+n-1=r.length+n by omega,Nat.add_div_right _ hn,Nat.div_eq_of_lt (by omega)]
    · rw [show r.length+1+n-1=(r.length+1-n+n-1)+n by omega,Nat.add_div_right _ hn]
theorem chunks_len {n:Nat} (hn:0<n) (l:List α):(chunks n l).length=(l.length+n-1) / n:=chunks_lenN hn _ l (Nat.le_refl _)
theorem chunks_map (f:β→α) {n:Nat} : ∀ (m:Nat) (l:List β),chunksN n m (l.map f)=(chunksN n m l).map (List.map f)
  | 0,_=>rfl
  | m+1,[]=>rfl
  | m+1,x::r=>by
    rw [chunksN,List.map_cons,chunksN,← List.map_cons,← List.map_drop,chunks_map f m,← List.map_take];rfl
def pass (c:α→α→Int) (n:Nat) (ls:List (List α)):List (List α):=(chunks n ls).map (merge c)
theorem pass_perm (h:Cmp c) {n:Nat} (hn:0<n) (ls:List (List α)):(pass c n ls).flatten.Perm ls.flatten:=by
  have key:∀ l:List (List (List α)),(l.map (merge c)).flatten.Perm l.flatten.flatten:=by
    intro l
    induction l with
    | nil=>exact .nil
    | cons x l ih =>
      rw [List.map_cons,List.flatten_cons,List.flatten_cons,List.flatten_append]
      exact (merge_perm h x).append ih
  have:=key (chunks n ls)
  rwa [chunks_flatten hn] at this
theorem Good.append {l m:List (List (α × Nat))} : Good c (l++m)↔Good c l∧Good c m ∧ ∀ x∈l,∀ y∈m,Apart c x y:=by
  constructor
  · intro h
    have h2:=List.pairwise_append.1 h.cross
    exact ⟨⟨fun x hx=>h.each x (List.mem_append_left _ hx),h2.1⟩,⟨fun x hx=>h.each x (List.mem_append_right _ hx),h2.2.1⟩,h2.2.2⟩
  · rintro ⟨h1,h2,h3⟩
    exact ⟨fun x hx=>(List.mem_append.1 hx).elim (h1.each x) (h2.each x),List.pairwise_append.2 ⟨h1.cross,h2.cross,h3⟩⟩
theorem good_merge (h:Cmp c):∀ (l:List (List (List (α × Nat)))),Good c l.flatten→Good c (l.map (merge (tc c)))
  | [],_=>⟨fun _ h=>(by cases h),.nil⟩
  | x::l,hg=>by
    rw [List.flatten_cons] at hg
    obtain ⟨h1,h2,h3⟩:=Good.append.1 hg
    have ih:=good_merge h l h2
    rw [List.map_cons]
    refine ⟨fun y hy=>?_,List.pairwise_cons.2 ⟨fun y hy=>?_,ih.cross⟩⟩
    · rcases List.mem_cons.1 hy with rfl | hy
      · exact merge_lt h h1
      · exact ih.each y hy
    · obtain ⟨z,hz,rfl⟩:=List.mem_map.1 hy
      intro a ha b hb
      obtain ⟨p,hp,hap⟩:=List.mem_flatten.1 ((merge_mem h.tagged).1 ha)
      obtain ⟨q,hq,hbq⟩:=List.mem_flatten.1 ((merge_mem h.tagged).1 hb)
      exact h3 p hp q (List.mem_flatten.2 ⟨z,hz,hq⟩) a hap b hbq
theorem good_pass (h:Cmp c) {n:Nat} (hn:0<n) {ls:List (List (α × Nat))} (hg:Good c ls):Good c (pass (tc c) n ls):=by
  refine good_merge h _ ?_
  rwa [chunks_flatten hn]
theorem pass_len {n:Nat} (hn:0<n) (ls:List (List α)):(pass c n ls).length=(ls.length+n-1) / n:=by unfold pass;rw [List.length_map,chunks_len hn]
theorem pass_less {n:Nat} (hn:2≤n) {ls:List (List α)} (h:1<ls.length):(pass c n ls).length<ls.length:=by
  rw [pass_len (by omega),Nat.div_lt_iff_lt_mul (by omega)]
  have:=Nat.mul_le_mul_left ls.length hn
  have h3:ls.length*n=(ls.length-1)*n+n:=by rw [← Nat.succ_mul];congr 1;omega
  have h4:=Nat.mul_le_mul_left (ls.length-1) hn
  omega
theorem pass_map (f:β→α) {n:Nat} (ls:List (List β)):pass c n (ls.map (List.map f))=(pass (fun a b=>c (f a) (f b)) n ls).map (List.map f):=by
  unfold pass chunks
  rw [List.length_map,chunks_map,List.map_map,List.map_map]
  exact List.map_congr_left fun l _=>merge_map f l
def roundsN (c:α→α→Int) (n:Nat):Nat→List (List α)→List (List α) × Nat
  | 0,ls=>(ls,0)
  | m+1,ls=>if ls.length≤1 then (ls,0) else ((roundsN c n m (pass c n ls)).1,(roundsN c n m (pass c n ls)).2+1)
def rounds (c:α→α→Int) (n:Nat) (ls:List (List α)):List (List α) × Nat:=roundsN c n ls.length ls
theorem roundsN_any {n:Nat} (hn:2≤n):∀ (m m':Nat) (ls:List (List α)),ls.length≤m→ls.length≤m'→roundsN c n m ls=roundsN c n m' ls
  | 0,0,_,_,_=>rfl
  | 0,m'+1,ls,h,_=>by rw [roundsN,roundsN,if_pos (by omega)]
  | m+1,0,ls,_,h=>by rw [roundsN,roundsN,if_pos (by omega)]
  | m+1,m'+1,ls,h,h'=>by
    rw [roundsN,roundsN]
    split
    · rfl
    · rename_i h1
      have:=pass_less (c:=c) hn (ls:=ls) (by omega)
      rw [roundsN_any hn m m' _ (by omega) (by omega)]
theorem rounds_done {n:Nat} {ls:List (List α)} (h:ls.length≤1):rounds c n ls=(ls,0):=by
  unfold rounds
  cases hl:ls.length with
  | zero=>rfl
  | succ k=>rw [roundsN,if_pos h]
theorem rounds_more {n:Nat} (hn:2≤n) {ls:List (List α)} (h:1<ls.length):rounds c n ls=((rounds c n (pass c n ls)).1,(rounds c n (pass c n ls)).2+1):=by
  have hp:=pass_less (c:=c) hn h
  unfold rounds
  cases hl:ls.length with
  | zero=>omega
  | succ k=>rw [roundsN,if_neg (by omega),roundsN_any hn k (pass c n ls).length _ (by omega) (Nat.le_refl _)]
theorem roundsN_map (f:β→α) {n:Nat} : ∀ (m:Nat) (ls:List (List β)),roundsN c n m (ls.map (List.map f))=((roundsN (fun a b=>c (f a) (f b)) n m ls).1.map (List.map f),(roundsN (fun a b=>c (f a) (f b)) n m ls).2)
  | 0,_=>rfl
  | m+1,ls=>by
    rw [roundsN,roundsN,List.length_map]
    split
    · rfl
    · rw [pass_map,roundsN_map f m]
theorem rounds_map (f:β→α) {n:Nat} (ls:List (List β)):rounds c n (ls.map (List.map f))=((rounds (fun a b=>c (f a) (f b)) n ls).1.map (List.map f),(rounds (fun a b=>c (f a) (f b)) n ls).2):=by
  unfold rounds;rw [List.length_map,roundsN_map]
theorem roundsN_good (h:Cmp c) {n:Nat} (hn:2≤n):∀ (m:Nat) (ls:List (List (α × Nat))),ls.length≤m→Good c ls→(roundsN (tc c) n m ls).1.length≤1∧Good c (roundsN (tc c) n m ls).1∧(roundsN (tc c) n m ls).1.flatten.Perm ls.flatten
  | 0,ls,hl,hg=>⟨by rw [roundsN];simp only;omega,hg,.refl _⟩
  | m+1,ls,hl,hg=>by
    rw [roundsN]
    split
    · rename_i h1;exact ⟨h1,hg,.refl _⟩
    · rename_i h1
      have hp:=pass_less (c:=tc c) hn (ls:=ls) (by omega)
      have ih:=roundsN_good h hn m (pass (tc c) n ls) (by omega) (good_pass h (by omega) hg)
      exact ⟨ih.1,ih.2.1,ih.2.2.trans (pass_perm h.tagged (by omega) ls)⟩
theorem single_flat {ls:List (List α)} (h:ls.length≤1):ls.flatten=ls.getD 0 []:=by
  cases ls with
  | nil=>rfl
  | cons x r=>cases r with
    | nil=>exact List.append_nil x
    | cons y s=>simp at h
theorem rounds_sorts (h:Cmp c) {n:Nat} (hn:2≤n) {ls:List (List (α × Nat))} (hg:Good c ls) {l:List α} (hp:ls.flatten.Perm l.zipIdx) :
    (rounds c n (ls.map (List.map Prod.fst))).1.length≤1∧(rounds c n (ls.map (List.map Prod.fst))).1.getD 0 []=srt c l:=by
  have hr:=roundsN_good h hn ls.length ls (Nat.le_refl _) hg
  rw [rounds_map]
  refine ⟨by rw [List.length_map];exact hr.1,?_⟩
  rw [getD_map,← canon h (t:=(rounds (tc c) n ls).1.getD 0 []) ?_ ?_]
  · have h1:=hr.1
    show List.Pairwise _ ((roundsN (tc c) n ls.length ls).1.getD 0 [])
    cases hl:(roundsN (tc c) n ls.length ls).1 with
    | nil=>exact .nil
    | cons x r=>exact hr.2.1.each x (by rw [hl];exact List.mem_cons_self)
  · show ((roundsN (tc c) n ls.length ls).1.getD 0 []).Perm _
    rw [← single_flat hr.1]
    exact hr.2.2.trans hp
def passes (fan:Nat):Nat→Nat→Nat
  | 0,_=>0
  | m+1,n=>if n≤1 then 0 else passes fan m ((n+fan-1) / fan)+1
theorem roundsN_count {n:Nat} (hn:2≤n):∀ (m:Nat) (ls:List (List α)),(roundsN c n m ls).2=passes n m ls.length
  | 0,_=>rfl
  | m+1,ls=>by
    rw [roundsN,passes]
    split
    · rfl
    · simp only;rw [roundsN_count hn m,pass_len (by omega)]
structure El (α:Type) where
  run:Nat
  no:Nat
  x:α
def El.tag (e:El α):α × Nat:=(e.x,e.no)
def El.lt (c:α→α→Int) (p q:El α):Prop:=p.run<q.run∨(p.run=q.run∧Srt.lt c p.tag q.tag)
instance (c:α→α→Int) (p q:El α):Decidable (El.lt c p q):=by unfold El.lt Srt.lt;exact inferInstance
theorem El.tri (h:Cmp c) {p q:El α} (hn:p.no≠q.no) (hlt:¬ El.lt c p q):El.lt c q p:=by
  unfold El.lt Srt.lt El.tag at *
  have:=h.anti p.x q.x
  simp only at *
  omega
theorem El.asymm (h:Cmp c) {p q:El α} (h1:El.lt c p q) (h2:El.lt c q p):False:=by
  rcases h1 with h1 | ⟨h1,h3⟩ <;> rcases h2 with h2 | ⟨h2,h4⟩
  · omega
  · omega
  · omega
  · exact lt_asymm h h3 h4
theorem El.trans (h:Cmp c) {p q r:El α} (h1:El.lt c p q) (h2:El.lt c q r):El.lt c p r:=by
  rcases h1 with h1 | ⟨h1,h3⟩ <;> rcases h2 with h2 | ⟨h2,h4⟩
  · exact .inl (by omega)
  · exact .inl (by omega)
  · exact .inl (by omega)
  · exact .inr ⟨by omega,lt_trans h h3 h4⟩
def insE (c:α→α→Int):List (El α)→El α→List (El α)
  | [],e=>[e]
  | f::r,e=>if El.lt c f e then f::insE c r e else e::f::r
theorem insE_perm:∀ (l:List (El α)) (e:El α),(insE c l e).Perm (e::l)
  | [],_=>.refl _
  | f::r,e=>by
    rw [insE];split
    · exact ((insE_perm r e).cons f).trans (.swap _ _ _)
    · exact .refl _
theorem insE_mem {l:List (El α)} {e f:El α} : f∈insE c l e↔f=e∨f∈l:=by rw [(insE_perm l e).mem_iff,List.mem_cons]
theorem insE_lt (h:Cmp c):∀ {l:List (El α)} {e:El α},l.Pairwise (El.lt c)→(∀ f∈l,f.no<e.no)→(insE c l e).Pairwise (El.lt c)
  | [],_,_,_=>List.pairwise_singleton _ _
  | f::r,e,ho,ht=>by
    have ho':=List.pairwise_cons.1 ho
    rw [insE];split
    · rename_i hc
      refine List.pairwise_cons.2 ⟨fun z hz=>?_,insE_lt h ho'.2 fun z hz=>ht z (List.mem_cons_of_mem _ hz)⟩
      rcases insE_mem.1 hz with rfl | hz
      · exact hc
      · exact ho'.1 z hz
    · rename_i hc
      have hx:=El.tri h (by have:=ht f List.mem_cons_self;omega) hc
      refine List.pairwise_cons.2 ⟨fun z hz=>?_,ho⟩
      rcases List.mem_cons.1 hz with rfl | hz
      · exact hx
      · exact El.trans h hx (ho'.1 z hz)
def putR (out:List (List β)) (r:Nat) (p:β):List (List β):=if r=out.length then out++[[p]] else out.set r (out.getD r []++[p])
def sel (c:α→α→Int):Nat→List (El α)→List (α × Nat)→List (List (α × Nat))→List (List (α × Nat))
  | 0,_,_,out=>out
  | _+1,[],_,out=>out
  | m+1,e::mem,[],out=>sel c m mem [] (putR out e.run e.tag)
  | m+1,e::mem,y::rest,out=>sel c m (insE c mem ⟨if c y.1 e.x<0 then e.run+1 else e.run,y.2,y.1⟩) rest (putR out e.run e.tag)
def fillE (c:α→α→Int) (l:List (α × Nat)):List (El α):=l.foldl (fun m y=>insE c m ⟨0,y.2,y.1⟩) []
def runsT (c:α→α→Int) (M:Nat) (l:List α):List (List (α × Nat)):=sel c l.length (fillE c (l.zipIdx.take M)) (l.zipIdx.drop M) []
def runs (c:α→α→Int) (M:Nat) (l:List α):List (List α):=(runsT c M l).map (List.map Prod.fst)
structure Sel (c:α→α→Int) (M:Nat) (l:List (α × Nat)) (mem:List (El α)) (rest:List (α × Nat)) (out:List (List (α × Nat))) (d:Nat):Prop where
  ord:mem.Pairwise (El.lt c)
  good:Good c out
  runsE:∀ e∈mem,e.run+1=out.length∨e.run=out.length
  later:∀ i,∀ p∈out.getD i [],∀ e∈mem,i+1=out.length→e.run=i→lt c p e.tag
  less:∀ i,i+1=out.length → ∀ e∈mem,e.run=out.length → ∃ p∈out.getD i [],c e.x p.1<0
  apart:∀ i,∀ p∈out.getD i [],∀ e∈mem,i<e.run→c p.1 e.x=0→p.2<e.no
  within:∀ a∈mem,∀ b∈mem,a.run<b.run→c a.x b.x=0→a.no<b.no
  tagsR:rest.Pairwise fun a b=>a.2<b.2
  tagsM:∀ y∈rest,∀ e∈mem,e.no<y.2
  tagsO:∀ y∈rest,∀ i,∀ p∈out.getD i [],p.2<y.2
  perm:(out.flatten++mem.map El.tag++rest).Perm l
  full:rest≠[]→mem.length+d=M
  ne:∀ x∈out,x≠[]
  long:∀ i,i+1<out.length→M≤(out.getD i []).length
  now:(M≤(out.getD (out.length-1) []).length+(mem.filter fun e=>e.run+1 == out.length).length∧out≠[])∨(rest=[]∧((∀ e∈mem,e.run+1=out.length)∨out=[]))∨(out=[]∧M≤mem.length)
theorem getD_append_left {ls ms:List (List β)} {i:Nat} (h:i<ls.length):(ls++ms).getD i []=ls.getD i []:=by
  rw [List.getD_eq_getElem?_getD,List.getElem?_append_left h,← List.getD_eq_getElem?_getD]
theorem getD_append_new {ls:List (List β)} {m:List β} : (ls++[m]).getD ls.length []=m:=by
  rw [List.getD_eq_getElem?_getD,List.getElem?_append_right (Nat.le_refl _),Nat.sub_self];rfl
theorem getD_none {ls:List (List β)} {i:Nat} (h:ls.length≤i):ls.getD i []=[]:=by
  rw [List.getD_eq_getElem?_getD,List.getElem?_eq_none h];rfl
theorem getD_set_same {ls:List (List β)} {i:Nat} {m:List β} (h:i<ls.length):(ls.set i m).getD i []=m:=by
  rw [List.getD_eq_getElem?_getD,List.getElem?_set_self h];rfl
theorem getD_set_other {ls:List (List β)} {i j:Nat} {m:List β} (h:i≠j):(ls.set i m).getD j []=ls.getD j []:=by
  rw [List.getD_eq_getElem?_getD,List.getElem?_set_ne h,← List.getD_eq_getElem?_getD]
theorem flat_set {ls:List (List β)} {i:Nat} {p:β} (h:i<ls.length):(ls.set i (ls.getD i []++[p])).flatten.Perm (p::ls.flatten):=by
  induction ls generalizing i with
  | nil=>simp at h
  | cons x ls ih =>
    cases i with
    | zero =>
      show ((x++[p])++ls.flatten).Perm _
      rw [List.append_assoc];exact List.perm_middle
    | succ i =>
      show (x++(ls.set i (ls.getD i []++[p])).flatten).Perm _
      exact ((ih (by simpa using h)).append_left x).trans List.perm_middle
theorem Sel.popSame {M:Nat} {l rest:List (α × Nat)} {e:El α} {mem:List (El α)} {out:List (List (α × Nat))} (hs:Sel c M l (e::mem) rest out 0) (he:e.run+1=out.length) :
    Sel c M l mem rest (out.set e.run (out.getD e.run []++[e.tag])) 1:=by
  have hlt:e.run<out.length:=by omega
  have hm:∀ f∈mem,f∈e::mem:=fun f hf=>List.mem_cons_of_mem _ hf
  have ho:=List.pairwise_cons.1 hs.ord
  have hmem:∀ {i:Nat} {p:α × Nat},p∈(out.set e.run (out.getD e.run []++[e.tag])).getD i []→p∈out.getD i []∨(p=e.tag∧i=e.run):=by
    intro i p hp
    by_cases hi:e.run=i
    · subst hi
      rw [getD_set_same hlt] at hp
      rcases List.mem_append.1 hp with hp | hp
      · exact .inl hp
      · exact .inr ⟨List.mem_singleton.1 hp,rfl⟩
    · rw [getD_set_other hi] at hp;exact .inl hp
  have hl1:(out.set e.run (out.getD e.run []++[e.tag])).length=out.length:=List.length_set
  constructor
  · exact ho.2
  · constructor
    · intro x hx
      rcases List.mem_or_eq_of_mem_set hx with hx | rfl
      · exact hs.good.each x hx
      · rw [List.pairwise_append]
        refine ⟨?_,List.pairwise_singleton _ _,fun a ha b hb=>?_⟩
        · rw [getD_of hlt];exact hs.good.each _ (List.getElem_mem hlt)
        · rw [List.mem_singleton.1 hb]
          exact hs.later e.run a ha e List.mem_cons_self he rfl
    · rw [List.pairwise_iff_getElem]
      intro i j hi hj hij a ha b hb h0
      rw [← getD_of hi] at ha
      rw [← getD_of hj] at hb
      rcases hmem ha with ha | ⟨rfl,hi2⟩
      · rcases hmem hb with hb | ⟨rfl,rfl⟩
        · exact hs.good.ix hij ha hb h0
        · exact hs.apart i a ha e List.mem_cons_self hij h0
      · rw [hl1] at hj;omega
  · intro f hf;rw [hl1];exact hs.runsE f (hm f hf)
  · intro i p hp f hf hi hr
    rw [hl1] at hi
    rcases hmem hp with hp | ⟨rfl,_⟩
    · exact hs.later i p hp f (hm f hf) hi hr
    · rcases ho.1 f hf with h1 | h1
      · omega
      · exact h1.2
  · intro i hi f hf hr
    rw [hl1] at hi hr
    obtain ⟨p,hp,h1⟩:=hs.less i hi f (hm f hf) hr
    refine ⟨p,?_,h1⟩
    have:e.run=i:=by omega
    subst this
    rw [getD_set_same hlt];exact List.mem_append_left _ hp
  · intro i p hp f hf hi h0
    rcases hmem hp with hp | ⟨rfl,rfl⟩
    · exact hs.apart i p hp f (hm f hf) hi h0
    · exact hs.within e List.mem_cons_self f (hm f hf) hi h0
  · exact fun a ha b hb=>hs.within a (hm a ha) b (hm b hb)
  · exact hs.tagsR
  · exact fun y hy f hf=>hs.tagsM y hy f (hm f hf)
  · intro y hy i p hp
    rcases hmem hp with hp | ⟨rfl,_⟩
    · exact hs.tagsO y hy i p hp
    · exact hs.tagsM y hy e List.mem_cons_self
  · refine List.Perm.trans ?_ hs.perm
    refine List.Perm.append_right _ ?_
    refine ((flat_set hlt).append_right _).trans ?_
    rw [List.map_cons];exact List.perm_middle.symm
  · intro hr;have:=hs.full hr;rw [List.length_cons] at this;omega
  · intro x hx
    rcases List.mem_or_eq_of_mem_set hx with hx | rfl
    · exact hs.ne x hx
    · simp
  · intro i hi
    rw [hl1] at hi
    rw [getD_set_other (by omega)];exact hs.long i hi
  · rw [hl1]
    rcases hs.now with ⟨h1,h2⟩ | ⟨h1,h2⟩ | ⟨h1,_⟩
    · refine .inl ⟨?_,fun h0=>h2 (by rw [← List.length_eq_zero_iff] at h0 ⊢;rw [← hl1];exact h0)⟩
      rw [show out.length-1=e.run by omega] at *
      rw [getD_set_same hlt,List.length_append,List.length_singleton]
      rw [List.filter_cons,if_pos (by rw [beq_iff_eq];exact he),List.length_cons] at h1
      omega
    · refine .inr (.inl ⟨h1,?_⟩)
      rcases h2 with h2 | h2
      · exact .inl fun f hf=>h2 f (hm f hf)
      · subst h2;simp at he
    · subst h1;simp at he
theorem Sel.popNew {M:Nat} {l rest:List (α × Nat)} {e:El α} {mem:List (El α)} {out:List (List (α × Nat))} (hs:Sel c M l (e::mem) rest out 0) (he:e.run=out.length) :
    Sel c M l mem rest (out++[[e.tag]]) 1:=by
  have hm:∀ f∈mem,f∈e::mem:=fun f hf=>List.mem_cons_of_mem _ hf
  have ho:=List.pairwise_cons.1 hs.ord
  have hall:∀ f∈mem,f.run=out.length:=fun f hf=>by
    have h1:=hs.runsE f (hm f hf)
    rcases ho.1 f hf with h2 | h2 <;> omega
  have hmem:∀ {i:Nat} {p:α × Nat},p∈(out++[[e.tag]]).getD i []→(p∈out.getD i []∧i<out.length)∨(p=e.tag∧i=out.length):=by
    intro i p hp
    by_cases hi:i<out.length
    · rw [getD_append_left hi] at hp;exact .inl ⟨hp,hi⟩
    · by_cases hi2:i=out.length
      · subst hi2;rw [getD_append_new] at hp;exact .inr ⟨List.mem_singleton.1 hp,rfl⟩
      · rw [getD_none (by simp;omega)] at hp;cases hp
  have hl1:(out++[[e.tag]]).length=out.length+1:=by simp
  constructor
  · exact ho.2
  · refine Good.append.2 ⟨hs.good,⟨fun x hx=>?_,List.pairwise_singleton _ _⟩,fun x hx y hy=>?_⟩
    · rw [List.mem_singleton.1 hx];exact List.pairwise_singleton _ _
    · rw [List.mem_singleton.1 hy]
      intro a ha b hb h0
      rw [List.mem_singleton.1 hb] at h0 ⊢
      obtain ⟨i,hi,rfl⟩:=List.mem_iff_getElem.1 hx
      rw [← getD_of hi] at ha
      exact hs.apart i a ha e List.mem_cons_self (by omega) h0
  · intro f hf;rw [hl1];exact .inl (by rw [hall f hf])
  · intro i p hp f hf hi hr
    rw [hl1] at hi
    rcases hmem hp with ⟨_,hp⟩ | ⟨rfl,_⟩
    · omega
    · rcases ho.1 f hf with h1 | h1
      · have:=hall f hf;omega
      · exact h1.2
  · intro i hi f hf hr
    rw [hl1] at hr
    have:=hall f hf;omega
  · intro i p hp f hf hi h0
    rcases hmem hp with ⟨hp,_⟩ | ⟨rfl,rfl⟩
    · exact hs.apart i p hp f (hm f hf) hi h0
    · have:=hall f hf;omega
  · exact fun a ha b hb=>hs.within a (hm a ha) b (hm b hb)
  · exact hs.tagsR
  · exact fun y hy f hf=>hs.tagsM y hy f (hm f hf)
  · intro y hy i p hp
    rcases hmem hp with ⟨hp,_⟩ | ⟨rfl,_⟩
    · exact hs.tagsO y hy i p hp
    · exact hs.tagsM y hy e List.mem_cons_self
  · refine List.Perm.trans ?_ hs.perm
    refine List.Perm.append_right _ ?_
    rw [List.flatten_append,List.map_cons]
    show (out.flatten++[e.tag]++_).Perm _
    rw [List.append_assoc];exact .refl _
  · intro hr;have:=hs.full hr;rw [List.length_cons] at this;omega
  · intro x hx
    rcases List.mem_append.1 hx with hx | hx
    · exact hs.ne x hx
    · rw [List.mem_singleton.1 hx];simp
  · intro i hi
    rw [hl1] at hi
    rw [getD_append_left (by omega)]
    by_cases hi2:i+1<out.length
    · exact hs.long i hi2
    · rcases hs.now with ⟨h1,h2⟩ | ⟨h1,h2⟩ | ⟨h1,_⟩
      · have h3:((e::mem).filter fun f=>f.run+1 == out.length)=[]:=by
          rw [List.filter_eq_nil_iff]
          intro f hf
          have:f.run=out.length:=by
            rcases List.mem_cons.1 hf with rfl | hf
            · exact he
            · exact hall f hf
          simp;omega
        rw [h3,show out.length-1=i by omega] at h1
        simpa using h1
      · rcases h2 with h2 | h2
        · have:=h2 e List.mem_cons_self;omega
        · subst h2;simp at hi
          try omega
      · subst h1;simp at hi
        try omega
  · by_cases hr:rest=[]
    · exact .inr (.inl ⟨hr,.inl fun f hf=>by rw [hall f hf,hl1]⟩)
    · refine .inl ⟨?_,by simp⟩
      have h1:=hs.full hr
      have h2:(mem.filter fun f=>f.run+1 == (out++[[e.tag]]).length)=mem:=by
        rw [List.filter_eq_self]
        intro f hf
        rw [beq_iff_eq,hall f hf,hl1]
      rw [h2,hl1,Nat.add_sub_cancel,getD_append_new]
      simp at h1 ⊢;omega
theorem Sel.pop {M:Nat} {l rest:List (α × Nat)} {e:El α} {mem:List (El α)} {out:List (List (α × Nat))} (hs:Sel c M l (e::mem) rest out 0) :
    Sel c M l mem rest (putR out e.run e.tag) 1∧(putR out e.run e.tag).length=e.run+1∧(∀ p∈(putR out e.run e.tag).getD e.run [],p=e.tag∨lt c p e.tag)∧e.tag∈(putR out e.run e.tag).getD e.run []:=by
  unfold putR
  split
  · rename_i he
    refine ⟨hs.popNew he,by simp [he],?_,?_⟩
    · intro p hp
      rw [he,getD_append_new] at hp
      exact .inl (List.mem_singleton.1 hp)
    · rw [he,getD_append_new];exact List.mem_singleton.2 rfl
  · rename_i he
    have he2:e.run+1=out.length:=(hs.runsE e List.mem_cons_self).resolve_right he
    refine ⟨hs.popSame he2,by rw [List.length_set];omega,?_,?_⟩
    · intro p hp
      rw [getD_set_same (by omega)] at hp
      rcases List.mem_append.1 hp with hp | hp
      · exact .inr (hs.later e.run p hp e List.mem_cons_self he2 rfl)
      · exact .inl (List.mem_singleton.1 hp)
    · rw [getD_set_same (by omega)];exact List.mem_append_right _ (List.mem_singleton.2 rfl)
theorem Sel.push (h:Cmp c) {M:Nat} {l rest:List (α × Nat)} {e:El α} {y:α × Nat} {mem:List (El α)} {out:List (List (α × Nat))} (hs:Sel c M l mem (y::rest) out 1)
    (hl:out.length=e.run+1) (hle:∀ p∈out.getD e.run [],p=e.tag∨lt c p e.tag) (hin:e.tag∈out.getD e.run []) :
    Sel c M l (insE c mem ⟨if c y.1 e.x<0 then e.run+1 else e.run,y.2,y.1⟩) rest out 0:=by
  have ht:=List.pairwise_cons.1 hs.tagsR
  have hy:y∈y::rest:=List.mem_cons_self
  have hr':∀ z∈rest,z∈y::rest:=fun z hz=>List.mem_cons_of_mem _ hz
  have hle':∀ p∈out.getD e.run [],c p.1 e.x≤0:=fun p hp=>by
    rcases hle p hp with rfl | h1
    · exact Int.le_of_eq (h.self _)
    · exact lt_le h1
  constructor
  · exact insE_lt h hs.ord (fun f hf=>hs.tagsM y hy f hf)
  · exact hs.good
  · intro f hf
    rcases insE_mem.1 hf with rfl | hf
    · simp only;split
      · exact .inr (by omega)
      · exact .inl (by omega)
    · exact hs.runsE f hf
  · intro i p hp f hf hi hr
    rcases insE_mem.1 hf with rfl | hf
    · simp only at hr
      have hie:i=e.run:=by omega
      subst hie
      split at hr
      · omega
      · rename_i hc
        have h1:=hle' p hp
        have h2:c e.x y.1≤0:=by have:=h.anti y.1 e.x;omega
        have h3:=h.trans _ _ _ h1 h2
        by_cases h0:c p.1 y.1=0
        · exact .inr ⟨h0,hs.tagsO y hy _ p hp⟩
        · refine .inl ?_
          show c p.1 y.1<0
          omega
    · exact hs.later i p hp f hf hi hr
  · intro i hi f hf hr
    rcases insE_mem.1 hf with rfl | hf
    · simp only at hr
      split at hr
      · rename_i hc
        have hie:i=e.run:=by omega
        subst hie
        exact ⟨e.tag,hin,hc⟩
      · omega
    · exact hs.less i hi f hf hr
  · intro i p hp f hf hi h0
    rcases insE_mem.1 hf with rfl | hf
    · exact hs.tagsO y hy i p hp
    · exact hs.apart i p hp f hf hi h0
  · intro a ha b hb hab h0
    rcases insE_mem.1 ha with rfl | ha
    · rcases insE_mem.1 hb with rfl | hb
      · exact absurd hab (Nat.lt_irrefl _)
      · simp only at hab h0
        have hbr:=hs.runsE b hb
        split at hab
        · omega
        · rename_i hc
          obtain ⟨p,hp,hlt⟩:=hs.less e.run (by omega) b hb (by omega)
          have h1:=hle' p hp
          have h2:c e.x y.1≤0:=by have:=h.anti y.1 e.x;omega
          have h3:=h.lt_le hlt (h.trans _ _ _ h1 h2)
          have:=h.anti y.1 b.x;omega
    · rcases insE_mem.1 hb with rfl | hb
      · exact hs.tagsM y hy a ha
      · exact hs.within a ha b hb hab h0
  · exact ht.2
  · intro z hz f hf
    rcases insE_mem.1 hf with rfl | hf
    · exact ht.1 z hz
    · exact hs.tagsM z (hr' z hz) f hf
  · exact fun z hz=>hs.tagsO z (hr' z hz)
  · refine List.Perm.trans ?_ hs.perm
    rw [List.append_assoc,List.append_assoc]
    refine List.Perm.append_left _ ?_
    refine (((insE_perm _ _).map El.tag).append_right rest).trans ?_
    rw [List.map_cons]
    exact List.perm_middle.symm
  · intro hr
    have:=hs.full (by simp)
    rw [(insE_perm _ _).length_eq,List.length_cons];omega
  · exact hs.ne
  · exact hs.long
  · rcases hs.now with ⟨h1,h2⟩ | ⟨h1,_⟩ | ⟨h1,_⟩
    · refine .inl ⟨?_,h2⟩
      rw [((insE_perm _ _).filter _).length_eq]
      exact Nat.le_trans h1 (Nat.add_le_add_left ((List.sublist_cons_self _ _).filter _).length_le _)
    · cases h1
    · subst h1;simp at hl
theorem Sel.dry {M:Nat} {l:List (α × Nat)} {mem:List (El α)} {out:List (List (α × Nat))} {d d':Nat} (hs:Sel c M l mem [] out d):Sel c M l mem [] out d':=
  ⟨hs.ord,hs.good,hs.runsE,hs.later,hs.less,hs.apart,hs.within,hs.tagsR,hs.tagsM,hs.tagsO,hs.perm,fun h=>absurd rfl h,hs.ne,hs.long,hs.now⟩
theorem sel_spec (h:Cmp c) {M:Nat} {l:List (α × Nat)} : ∀ (m:Nat) (mem:List (El α)) (rest:List (α × Nat)) (out:List (List (α × Nat))),mem.length+rest.length≤m→Sel c M l mem rest out 0→(mem=[]→rest=[]) →
    Sel c M l [] [] (sel c m mem rest out) 0
  | 0,[],[],out,_,hs,_=>hs
  | 0,e::mem,_,_,hl,_,_=>by simp at hl
  | 0,[],y::rest,_,hl,_,_=>by simp at hl
  | m+1,[],[],out,_,hs,_=>hs
  | m+1,[],y::rest,out,_,_,hn=>by cases hn rfl
  | m+1,e::mem,[],out,hl,hs,_=>by
    rw [sel]
    exact sel_spec h m mem [] _ (by simp at hl ⊢;omega) hs.pop.1.dry (fun _=>rfl)
  | m+1,e::mem,y::rest,out,hl,hs,_=>by
    rw [sel]
    obtain ⟨h1,h2,h3,h4⟩:=hs.pop
    refine sel_spec h m _ rest _ ?_ (h1.push h h2 h3 h4) (fun h0=>?_)
    · rw [(insE_perm _ _).length_eq];simp at hl ⊢;omega
    · have:=congrArg List.length h0
      rw [(insE_perm _ _).length_eq] at this;simp at this
theorem fill_spec (h:Cmp c):∀ (l:List (α × Nat)) (mem:List (El α)),l.Pairwise (fun a b=>a.2<b.2)→(∀ y∈l,∀ e∈mem,e.no<y.2)→mem.Pairwise (El.lt c)→(∀ e∈mem,e.run=0) →
    let r:=l.foldl (fun m y=>insE c m ⟨0,y.2,y.1⟩) mem
    r.Pairwise (El.lt c)∧(∀ e∈r,e.run=0)∧(r.map El.tag).Perm (mem.map El.tag++l)∧r.length=mem.length+l.length
  | [],mem,_,_,ho,h0=>⟨ho,h0,by rw [List.append_nil];exact .refl _,rfl⟩
  | y::l,mem,hl,ht,ho,h0=>by
    have hl':=List.pairwise_cons.1 hl
    obtain ⟨h1,h2,h3,h4⟩:=fill_spec h l (insE c mem ⟨0,y.2,y.1⟩) hl'.2
      (fun z hz e he=>by
        rcases insE_mem.1 he with rfl | he
        · exact hl'.1 z hz
        · exact ht z (List.mem_cons_of_mem _ hz) e he)
      (insE_lt h ho fun f hf=>ht y List.mem_cons_self f hf)
      (fun e he=>by
        rcases insE_mem.1 he with rfl | he
        · rfl
        · exact h0 e he)
    refine ⟨h1,h2,h3.trans ?_,by rw [List.foldl_cons,h4,(insE_perm _ _).length_eq];simp;omega⟩
    exact (((insE_perm _ _).map El.tag).append_right l).trans List.perm_middle.symm
theorem tagged_take (l:List α) (M:Nat):(l.zipIdx.take M).Pairwise (fun a b=>a.2<b.2)∧(l.zipIdx.drop M).Pairwise (fun a b=>a.2<b.2) ∧ ∀ y∈l.zipIdx.drop M,∀ x∈l.zipIdx.take M,x.2<y.2:=by
  have:=zip_tags l 0
  rw [← List.take_append_drop M l.zipIdx] at this
  obtain ⟨h1,h2,h3⟩:=List.pairwise_append.1 this
  exact ⟨h1,h2,fun y hy x hx=>h3 x hx y hy⟩
theorem start_spec (h:Cmp c) (M:Nat) (l:List α):Sel c M l.zipIdx (fillE c (l.zipIdx.take M)) (l.zipIdx.drop M) [] 0∧(fillE c (l.zipIdx.take M)).length=min M l.length:=by
  obtain ⟨t1,t2,t3⟩:=tagged_take l M
  obtain ⟨h1,h2,h3,h4⟩:=fill_spec h (l.zipIdx.take M) [] t1 (fun _ _ _ he=>by cases he) .nil (fun _ he=>by cases he)
  have hlen:(fillE c (l.zipIdx.take M)).length=min M l.length:=by
    unfold fillE;rw [h4];simp
  refine ⟨?_,hlen⟩
  have hno:∀ e∈fillE c (l.zipIdx.take M),e.tag∈l.zipIdx.take M:=fun e he=>h3.mem_iff.1 (List.mem_map_of_mem he)
  constructor
  · exact h1
  · exact ⟨fun _ hx=>(by cases hx),.nil⟩
  · exact fun e he=>.inr (h2 e he)
  · intro i p hp;rw [getD_none (Nat.zero_le _)] at hp;cases hp
  · intro i hi;simp at hi
  · intro i p hp;rw [getD_none (Nat.zero_le _)] at hp;cases hp
  · intro a ha b hb hab;have:=h2 a ha;have:=h2 b hb;omega
  · exact t2
  · exact fun y hy e he=>t3 y hy _ (hno e he)
  · intro y hy i p hp;rw [getD_none (Nat.zero_le _)] at hp;cases hp
  · have:=h3.append_right (l.zipIdx.drop M)
    rw [List.map_nil,List.nil_append,List.take_append_drop] at this
    exact this
  · intro hr
    rw [hlen,Nat.add_zero]
    have:¬ l.length≤M:=fun hle=>hr (List.drop_eq_nil_of_le (by simpa using hle))
    omega
  · exact fun _ hx=>(by cases hx)
  · intro i hi;simp at hi
  · by_cases hr:l.length≤M
    · exact .inr (.inl ⟨List.drop_eq_nil_of_le (by simpa using hr),.inr rfl⟩)
    · exact .inr (.inr ⟨rfl,by rw [hlen];omega⟩)
theorem runsT_spec (h:Cmp c) {M:Nat} (hM:0<M) (l:List α):Sel c M l.zipIdx [] [] (runsT c M l) 0:=by
  obtain ⟨h1,h2⟩:=start_spec h M l
  refine sel_spec h _ _ _ _ ?_ h1 (fun h0=>?_)
  · rw [h2];simp;omega
  · rw [h0] at h2
    have:l=[]:=by cases l with | nil=>rfl | cons=>simp at h2;omega
    subst this;simp
theorem runs_good (h:Cmp c) {M:Nat} (hM:0<M) (l:List α):Good c (runsT c M l)∧(runsT c M l).flatten.Perm l.zipIdx:=by
  have hs:=runsT_spec h hM l
  refine ⟨hs.good,?_⟩
  have:=hs.perm
  rwa [List.map_nil,List.append_nil,List.append_nil] at this
theorem runs_ne (h:Cmp c) {M:Nat} (hM:0<M) (l:List α):∀ x∈runs c M l,x≠[]:=by
  intro x hx
  obtain ⟨y,hy,rfl⟩:=List.mem_map.1 hx
  intro h0
  exact (runsT_spec h hM l).ne y hy (List.map_eq_nil_iff.1 h0)
theorem runs_perm (h:Cmp c) {M:Nat} (hM:0<M) (l:List α):(runs c M l).flatten.Perm l:=by
  unfold runs
  rw [← List.map_flatten]
  have:=((runs_good h hM l).2).map Prod.fst
  rwa [List.zipIdx_map_fst] at this
theorem sorts (h:Cmp c) {M n:Nat} (hM:0<M) (hn:2≤n) (l:List α):(rounds c n (runs c M l)).1.length≤1∧(rounds c n (runs c M l)).1.getD 0 []=srt c l:=
  rounds_sorts h hn (runs_good h hM l).1 (runs_good h hM l).2
theorem rounds_count {n:Nat} (hn:2≤n) (ls:List (List α)):(rounds c n ls).2=passes n ls.length ls.length:=roundsN_count hn _ ls
end
end Srt
end Go.Proofs.YtggobegaiijhhaaGreatDoor
namespace Go.Proofs.YtggobegaiijhhaaGreatDoor
open Go.GV
namespace Ord
theorem less_self:∀ (s:Bytes),Op.bytesLess s s=false
  | []=>rfl
  | x::s=>by unfold Op.bytesLess;simp [less_self s]
def lt (a b:Bytes):Prop:=Op.bytesLess a b=true
theorem irr (a:Bytes):¬ lt a a:=by unfold lt;rw [less_self];decide
theorem lt_cons {x y:UInt8} {a b:Bytes} : lt (x::a) (y::b)↔(x.toNat<y.toNat∨(x.toNat=y.toNat∧lt a b)):=by
  unfold lt
  rw [Op.bytesLess,Bool.or_eq_true,Bool.and_eq_true,decide_eq_true_eq,beq_iff_eq,UInt8.lt_iff_toNat_lt,← UInt8.toNat_inj]
theorem trans:∀ {a b c:Bytes},lt a b→lt b c→lt a c
  | _,_,[],_,h=>by simp [lt,Op.bytesLess] at h
  | _,[],_::_,h,_=>by simp [lt,Op.bytesLess] at h
  | [],_::_,_::_,_,_=>rfl
  | x::a,y::b,z::c,h,h2=>by
    rw [lt_cons] at *
    rcases h with h | ⟨h,h3⟩ <;> rcases h2 with h2 | ⟨h2,h4⟩
    · left;omega
    · left;omega
    · left;omega
    · exact .inr ⟨by omega,trans h3 h4⟩
theorem tri:∀ (a b:Bytes),lt a b∨a=b∨lt b a
  | [],[]=>.inr (.inl rfl)
  | [],_::_=>.inl rfl
  | _::_,[]=>.inr (.inr rfl)
  | x::a,y::b=>by
    rw [lt_cons,lt_cons]
    rcases Nat.lt_trichotomy x.toNat y.toNat with h | h | h
    · exact .inl (.inl h)
    · rcases tri a b with h2 | h2 | h2
      · exact .inl (.inr ⟨h,h2⟩)
      · exact .inr (.inl (by rw [UInt8.toNat_inj.1 h,h2]))
      · exact .inr (.inr (.inr ⟨h.symm,h2⟩))
    · exact .inr (.inr (.inl h))
theorem asymm {a b:Bytes} (h:lt a b):¬ lt b a:=fun h2=>irr a (trans h h2)
end Ord
end Go.Proofs.YtggobegaiijhhaaGreatDoor
