/- GvZ, GvLt, GvKp, St45, Op45, Sh45 in one text. -/
import Derived.Test.YtggobegaiijhhaaGreatDoorUtilitySorts4
import Derived.Test.YtggobegaiijhhaaGreatDoorUtilitySorts5
import Derived.Test.YtggobegaiijhhaaGreatDoorUtilitySorts3
import Derived.Shelf.Strings.Builder1
import Derived.Shelf.Strings.Builder2
import Derived.Shelf.Strings.Trim
import Derived.Shelf.Small.Utf8
import Derived.Shelf.Small.Bits
import Derived.Shelf.Small.Strs
import Derived.Shelf.Small.Wraps
import Derived.Shelf.Strings.BuilderF
import Derived.Shelf.Strings.BuilderK
import Derived.Shelf.Utf8.RuneCount
import Derived.Shelf.Strings.Builder2Cap
import Derived.Shelf.Strconv.Atoi
import Derived.Shelf.Strconv.Itoa0
import Derived.Shelf.Strconv.Itoa1
import Derived.Shelf.LaysM
import Derived.Shelf.Strconv.Itoa2
import Derived.Shelf.Strconv.Itoa3
import Derived.Shelf.Strconv.AtoiErrFast
import Derived.Shelf.Strconv.ParseIntEmpty
import Derived.Shelf.Strconv.AtoiFail
import Derived.Shelf.Strconv.Clone
import Derived.Shelf.Strconv.SyntaxError
import Derived.Shelf.LaysC
import Derived.Shelf.Strconv.ToError
import Derived.Shelf.Strconv.AtoiErr
import Derived.Shelf.Strconv.Lower
import Derived.Shelf.Strconv.ParseUint10
import Derived.Shelf.Strconv.ParseUint10Empty
import Derived.Shelf.Strconv.ParseUint10Any
import Derived.Shelf.Strconv.ParseInt10
import Derived.Shelf.Strconv.AtoiLong
import Derived.Shelf.Strconv.AtoiInnerAll
import Derived.Shelf.Strconv.RangeError
import Derived.Shelf.Strconv.ToErrorRange
import Derived.Shelf.Strconv.AtoiAll
import Derived.Shelf.Strconv.ErrVarAll
import Derived.Shelf.Strings.Search1
import Derived.Shelf.Strings.Search2
import Derived.Shelf.Strings.Search3
import Derived.Shelf.Strings.Cut
import Derived.Shelf.Strings.Count
import Derived.Shelf.Strings.Shaped
import Derived.Shelf.Sort.Plain
import Derived.Shelf.Strings.Prefix
import Derived.Shelf.Strings.Split
import Derived.Shelf.Strings.SplitShaped
import Derived.Shelf.Unicode.Decode
import Derived.Shelf.Strings.Runes
import Derived.Shelf.Strings.RuneCount
import Derived.Shelf.Strings.AsciiSet
import Derived.Shelf.Strings.Explode
import Derived.Shelf.Bits.Mul64
import Derived.Shelf.Strings.Repeat
import Derived.Shelf.Unicode.DecodeSlow
import Derived.Shelf.Unicode.DecodeAny
import Derived.Shelf.Unicode.DecodeLast
import Derived.Shelf.Strings.FieldsFuncAny
import Derived.Shelf.Strings.FieldsFuncGrows
import Derived.Shelf.Slices.Turned
import Derived.Shelf.Slices.Equal
import Derived.Shelf.Slices.Clone
import Derived.Shelf.Slices.SearchI
import Derived.Shelf.Slices.In.SortNone
import Derived.Shelf.SlicesG.SearchI
import Derived.Shelf.SlicesE.Clone
import Derived.Test.YtggobegaiijhhaaGreatDoorRows
set_option linter.unusedVariables false
set_option linter.unusedSimpArgs false
namespace Go.GV
open Go.RowKit
theorem addr_zero (a:Addr):a.add 0=a:=by unfold Addr.add;rw [if_pos rfl]
theorem subA_zero (A:Option Addr) (cap sz:Nat):subA A cap 0 sz=A:=by
  unfold subA
  split
  · rfl
  · rw [Nat.zero_mul];cases A with
    | none=>rfl
    | some a=>exact congrArg some (addr_zero a)
section
variable {E:Env} {P:Program} {w:World} {x y:Operand} {dst:Option Nat} {t t' ty e:TypeId} {pos:String} {af:Array Edge} {g:Option (Nat × Bool)}
theorem x_head {A:Option Addr} {len cap n hi:Nat} {ohi:Option Operand} (hx:ev E x = .slice A len cap) (ht:P.underlying t=some (.slice e)) (hn:sizeIs P e=some n) (hhi:ohi.map (ev E)=some (vI (hi:Int))) (h2:hi≤cap) :
    (execOp (ev E) ⟨dst,.slice t x none ohi none,ty,pos,af,g⟩).run P w = .ok (.value (.slice A hi cap)) w:=by
  have:=x_subrow (P:=P) (w:=w) (dst:=dst) (ty:=ty) (pos:=pos) (af:=af) (g:=g) (lo:=0) (hi:=hi) (olo:=none) (ohi:=ohi) hx ht hn (.inr ⟨rfl,rfl⟩) (.inl hhi) (Nat.zero_le _) h2
  rwa [subA_zero,Nat.sub_zero,Nat.sub_zero] at this
theorem x_head_row {S:List Nat} {w0:World} {L:List Ent} (j:Nat) {A:Option Addr} {len cap n sz hi:Nat} {cs:List Value} {te:TypeId} {ohi:Option Operand} (hj:L[j]? = some (Ent.row (.slice A len cap) te sz len cs)) (hx:ev E x = .slice A len cap) (ht:P.underlying t=some (.slice e)) (hn:sizeIs P e=some n) (hhi:ohi.map (ev E)=some (vI (hi:Int))) (h2:hi≤len) :
    ∀ w,St S w0 w L→(execOp (ev E) ⟨dst,.slice t x none ohi none,ty,pos,af,g⟩).run P w = .ok (.value (.slice A hi cap)) w:=fun w hS=>by
  have:=row_le (hS.mem hj)
  exact x_head hx ht hn hhi (by omega)
end
theorem St.trunc {S:List Nat} {w0 w:World} {L L':List Ent} (h:St S w0 w L) (j:Nat) {A:Option Addr} {len n cap sz:Nat} {te:TypeId} {cs cs':List Value} (hj:L[j]? = some (Ent.row (.slice A len cap) te sz len cs)) (hL:L.set j (Ent.row (.slice A n cap) te sz n cs')=L') (hn:n≤len) (hcs:cs'=cs.take (n*sz)):St S w0 w L':=by
  subst hL
  have hat:=h.mem hj
  have ho:(Value.slice A n cap).ownBlock=(Value.slice A len cap).ownBlock:=by cases A <;> rfl
  refine St.swapAt h hj ?_ ?_ (fun b hb=>.inl (ho.symm.trans hb))
  · exact ⟨rfl,rfl,rfl,Nat.le_refl _,fun _ _ _=>rfl⟩
  · obtain ⟨⟨h1,h2⟩,h3⟩:=hat
    have hb:n*sz≤len*sz:=Nat.mul_le_mul_right sz hn
    refine ⟨⟨by rw [hcs,List.length_take,h1];omega,?_⟩,fun b hb2=>h3 b (ho.symm.trans hb2)⟩
    rcases h2 with ⟨h2,h4⟩ | ⟨gb,cap',cur,h2,hob,hcap,hmax,hcs2,htk⟩
    · cases h2
      have:n=0:=by omega
      subst this;exact .inl ⟨rfl,rfl⟩
    · cases h2
      refine .inr ⟨gb,cap,cur,rfl,hob,by omega,hmax,hcs2,?_⟩
      rw [hcs,← htk,List.take_take]
      congr 1;omega
theorem truncL {S:List Nat} {w0 w:World} {L L':List Ent} (h:St S w0 w L) (j:Nat) {A:Option Addr} {len n m cap sz:Nat} {te:TypeId} {cs cs':List Value} (hj:L[j]? = some (Ent.row (.slice A len cap) te sz len cs)) (hL:L.set j (Ent.row (.slice A m cap) te sz m cs')=L') (hn:n≤len) (hcs:cs'=cs.take (n*sz)) (hm:n=m):St S w0 w L':=by
  subst hm;exact h.trunc j hj hL hn hcs
theorem take_flat {α:Type} (f:α→List Value) (sz:Nat) (hf:∀ a,(f a).length=sz):∀ (xs:List α) (n:Nat),(xs.take n).flatMap f=(xs.flatMap f).take (n*sz)
  | [],n=>by simp
  | x::xs,0=>by simp
  | x::xs,n+1=>by
    rw [List.take_succ_cons,List.flatMap_cons,List.flatMap_cons,take_flat f sz hf xs n,Nat.succ_mul,Nat.add_comm (n*sz) sz,List.take_append,hf,List.take_of_length_le (l:=f x) (by rw [hf];omega),show sz+n*sz-sz=n*sz by omega]
theorem drop_flat {α:Type} (f:α→List Value) (sz:Nat) (hf:∀ a,(f a).length=sz):∀ (xs:List α) (n:Nat),(xs.drop n).flatMap f=(xs.flatMap f).drop (n*sz)
  | [],n=>by simp
  | x::xs,0=>by simp
  | x::xs,n+1=>by
    rw [List.drop_succ_cons,List.flatMap_cons,drop_flat f sz hf xs n,Nat.succ_mul,Nat.add_comm (n*sz) sz,List.drop_append,hf,List.drop_of_length_le (l:=f x) (by rw [hf];omega),show sz+n*sz-sz=n*sz by omega];rfl
theorem take_len {α:Type} {xs:List α} {n:Nat} (h:n≤xs.length):n=(xs.take n).length:=by rw [List.length_take];omega
theorem RO.sub {S:List Nat} {w:World} {A:Option Addr} {cs:List Value} (h:RO S w A cs) (cap lo n sz:Nat) (hn:n=0∨lo<cap):RO S w (subA A cap lo sz) ((cs.drop (lo*sz)).take (n*sz)):=by
  rcases hn with rfl | hn
  · rw [Nat.zero_mul,List.take_zero];exact RO.nil
  · refine RO.take ?_ _
    unfold subA
    rw [if_neg (by omega)]
    exact RO.drop h _
theorem RO.subM {α:Type} {S:List Nat} {w:World} {A:Option Addr} {xs:List α} {f:α→Value} (h:RO S w A (xs.map f)) (cap lo n:Nat) (hn:n=0∨lo<cap):RO S w (subA A cap lo 1) (((xs.drop lo).take n).map f):=by
  have:=h.sub cap lo n 1 hn
  rwa [Nat.mul_one,Nat.mul_one,← List.map_drop,← List.map_take] at this
def int8 (c:UInt8):Int:=if c.toNat<128 then (c.toNat:Int) else (c.toNat:Int)-256
theorem int8_lt (c:UInt8) : -128≤int8 c∧int8 c≤127:=by have:=c.toNat_lt;unfold int8;split <;> omega
theorem wrap_int8 (c:UInt8):IntKind.i8.wrap (c.toNat:Int)=int8 c:=by
  have:=c.toNat_lt
  have h:IntKind.i8.wrap (c.toNat:Int)=if (c.toNat:Int) % 256 ≥ 128 then (c.toNat:Int) % 256-256 else (c.toNat:Int) % 256:=by
    show (if (true&&decide ((c.toNat:Int) % 256 ≥ 128))=true then (c.toNat:Int) % 256-256 else (c.toNat:Int) % 256)=_
    simp
  rw [h]
  unfold int8
  split <;> split <;> omega
section
variable {E:Env} {P:Program} {w:World} {x y z:Operand} {dst:Option Nat} {t t' ty u:TypeId} {pos:String} {af:Array Edge} {g:Option (Nat × Bool)}
theorem x_conv_u8_i8 {a:UInt8} {q:TypeDesc} (hx:ev E x=vU8 a) (hs:P.underlying t=some q) (hd:P.underlying u=some (.int .i8)):(execOp (ev E) ⟨dst,.convert t u x,ty,pos,af,g⟩).run P w = .ok (.value (.int .i8 (int8 a))) w:=by
  have hr:(convert t u (vU8 a)).run P w = .ok (.int .i8 (IntKind.i8.wrap (a.toNat:Int))) w:=by
    simp [convert,run_underlying hs,run_underlying hd,Conv.intToInt]
  simp only [execOp,hx]
  show (Sem.run P (do let v ← convert t u (vU8 a);pure (Next.value v)) w)=_
  rw [Sem.run_bind,hr]
  simp only [Result.andThen_ok]
  rw [wrap_int8];rfl
theorem x_conv_i8_i64 {a:Int} {q:TypeDesc} (hx:ev E x = .int .i8 a) (hs:P.underlying t=some q) (hd:P.underlying u=some (.int .i64)) (h1 : -128≤a) (h2:a≤127):(execOp (ev E) ⟨dst,.convert t u x,ty,pos,af,g⟩).run P w = .ok (.value (vI a)) w:=by
  have hr:(convert t u (.int .i8 a)).run P w = .ok (.int .i64 (IntKind.i64.wrap a)) w:=by
    simp [convert,run_underlying hs,run_underlying hd,Conv.intToInt]
  simp only [execOp,hx]
  show (Sem.run P (do let v ← convert t u (.int .i8 a);pure (Next.value v)) w)=_
  rw [Sem.run_bind,hr]
  simp only [Result.andThen_ok]
  rw [wrap_i64_in _ (by omega) (by omega)];rfl
theorem ofInt_mod (a:Int):BitVec.ofInt 64 a=BitVec.ofNat 64 (a % 18446744073709551616).toNat:=by
  apply BitVec.eq_of_toNat_eq
  rw [BitVec.toNat_ofInt,BitVec.toNat_ofNat]
  have:=Int.emod_lt_of_pos a (show (0:Int)<18446744073709551616 by decide)
  have:=Int.emod_nonneg a (show (18446744073709551616:Int)≠0 by decide)
  rw [Nat.mod_eq_of_lt (by omega)]
  rfl
theorem x_or_hi {n:Int} {a:Int} {c:Nat} (hx:ev E x=vI a) (hy:ev E y=vI (c:Int)) (ha:a=n*256) (hc:c<256) (h1 : -36028797018963968≤n) (h2:n<36028797018963968):(execOp (ev E) ⟨dst,.binOp .or t x y t',ty,pos,af,g⟩).run P w = .ok (.value (vI (a+(c:Int)))) w:=by
  have h:IntKind.i64.wrap ((BitVec.ofInt 64 a ||| BitVec.ofInt 64 (c:Int)).toNat:Int)=a+c:=by
    rw [BitVec.toNat_or,ofInt_mod,ofInt_mod (c:Int),BitVec.toNat_ofNat,BitVec.toNat_ofNat]
    have e1:=Int.emod_lt_of_pos n (show (0:Int)<72057594037927936 by decide)
    have e2:=Int.emod_nonneg n (show (72057594037927936:Int)≠0 by decide)
    obtain ⟨m,hm⟩:∃ m:Nat,n % 72057594037927936=m:=⟨(n % 72057594037927936).toNat,by omega⟩
    have e3:(a % 18446744073709551616).toNat % 2 ^ 64=m <<< 8:=by
      rw [Nat.shiftLeft_eq]
      have:a % 18446744073709551616=m*256:=by rw [ha];omega
      rw [this];omega
    have e4:((c:Int) % 18446744073709551616).toNat % 2 ^ 64=c:=by omega
    rw [e3,e4,← Nat.shiftLeft_add_eq_or_of_lt (by omega:c<2 ^ 8),Nat.shiftLeft_eq,IntKind.wrap_i64]
    omega
  simp only [execOp,hx,hy]
  show Result.ok (Next.value (.int .i64 (IntKind.i64.wrap ((BitVec.ofInt 64 a ||| BitVec.ofInt 64 (c:Int)).toNat:Int)))) w=_
  rw [h]
end
section
variable {n:Dim} {S:List Nat} {w0:World} {P:Program} {ops:Array Oper} {Q:Post} {E:Env} {L:List Ent} {rest:List Oper} {d:Nat}
theorem sn_ {a b:Int} (e:a=b) (h:JO P n S w0 ops rest Q ((d,vI b)::E) L):JO P n S w0 ops rest Q ((d,vI a)::E) L:=by subst e;exact h
theorem sE_ {a b:Int} (h:a=b):some (vI a)=some (vI b):=by rw [h]
end
end Go.GV
namespace Go.GV
open Go.RowKit
def lateB (ops:Array Oper):Nat→Nat→Nat→Bool
  | 0,_,_=>false
  | f+1,u,i=>match ops[u]? with
    | some x=>x.after.any fun e=>Region.binds .any e&&(e.on == i||lateB ops f e.on i)
    | none=>false
theorem getD_up {l:Array Bool} {i:Nat} (h:l.getD i false=true):l.getD i true=true:=by
  rw [Array.getD_eq_getD_getElem?] at *
  cases hc:l[i]? with
  | none=>rw [hc] at h;cases h
  | some b=>rw [hc] at h;exact h
theorem late_listed {ops:Array Oper} {l:Array Bool} (hl:Closed ops l):∀ (f u i:Nat),lateB ops f u i=true→l.getD u true=true→l.getD i false=true
  | 0,u,i,h,_=>by cases h
  | f+1,u,i,h,hu=>by
    rw [lateB] at h
    cases hx:ops[u]? with
    | none=>rw [hx] at h;cases h
    | some x =>
      rw [hx] at h
      obtain ⟨e,he,hb⟩:=Array.any_eq_true'.1 h
      rw [Bool.and_eq_true,Bool.or_eq_true] at hb
      have h2:=hl.2 u x hx hu e he hb.1
      rcases hb.2 with h3 | h3
      · rw [beq_iff_eq] at h3;rw [h3] at h2;exact h2
      · exact late_listed hl f e.on i h3 (getD_up h2)
section
variable {P:Program} {n:Dim} {S:List Nat} {w0:World} {Q:Post} {E:Env} {L:List Ent}
variable {ops:Array Oper} {Lg Lu:List Ent} {us:List Nat} {fuel:Nat} {listed:Array Bool}
theorem JA_earlyT (i:Nat) {o:Oper} (v:Value) (hi:ops[i]? = some o) (hs:Region.noSelect ops=true) (hf:Region.free .any ops listed i=true) (hr:(Region.ready .any ops listed).contains i=true) (hu:us.contains i=false)
    (hlate:(us.all fun u=>lateB ops 64 u i)=true)
    (hQ:∀ c a w,Q (.panic c) (a.put o.dst v) w→Q (.panic c) a w) (hfit:fit n E o=true) (hw:wants ops E o) (hv:∀ w,St S w0 w Lu→(execOp (ev E) o).run P w = .ok (.value v) w)
    (h:JA P n S w0 ops Q Lg us Lu fuel (listed.setIfInBounds i true) (put E o.dst v) L):JA P n S w0 ops Q Lg us Lu (fuel+1) listed E L:=by
  intro a w hR hS hcl
  have hr':i∈Region.ready .any ops listed:=by simpa using hr
  have hnone:∀ l:Array Bool,Closed ops l→l.getD i true=false→(us.all fun u=>!l.getD u true)=true:=by
    intro l hl hun
    rw [List.all_eq_true] at hlate ⊢
    intro u hu'
    cases hc:l.getD u true with
    | false=>rfl
    | true =>
      have h2:=late_listed hl 64 u i (hlate u hu') hc
      have h3:=getD_up h2
      rw [hun] at h3;cases h3
  refine wpAnyG_first (H:=fun w=>St S w0 w Lu) hi (Region.noSelect_spec hs) hQ
    (fun l w hc hl h=>h.2 (by rw [all_unset hu];exact hnone l hc hl)) (fun l w _ hl h=>⟨h.1,fun hh=>h.2 (by rw [all_unset hu];exact hh)⟩) fuel listed a w hcl (Region.free_spec hi hf) hr' (.inl ⟨wants_wanted hR hw,fit_nodefer hfit,fun w' hG=>?_⟩) (h _ w (hR.put (fit_dst hfit) v) hS (hcl.add hr'))
  rw [fit_exec hfit hR];exact hv w' hG
end
end Go.GV
namespace Go.GV
open Go.RowKit
section
variable {α:Type} {S:List Nat} {w:World} {A:Option Addr} {xs:List α}
theorem RO.head {cs:List Value} (h:RO S w A cs) (n:Nat):RO S w A (cs.take n):=fun j v hj=>by
  rw [List.getElem?_take] at hj
  split at hj
  · exact h j v hj
  · cases hj
theorem RO.headM {f:α→Value} (h:RO S w A (xs.map f)) (n:Nat):RO S w A ((xs.take n).map f):=by
  rw [List.map_take];exact h.head _
end
end Go.GV
namespace Go.GV
open Go.RowKit Go.MapKept
end Go.GV
namespace Go.GV
open Go.RowKit
def Kp (S:List Nat) (w:World) (C:World→Prop):Prop:=
  ∃ B:Nat→Prop,(∀ b,B b→b<w.heap.size∧b∉S) ∧ ∀ w':World,(∀ b,B b→w'.heap[b]? = w.heap[b]?)→C w'
section
variable {S S' Sc F:List Nat} {w0 w:World} {C D:World→Prop} {L Lc Lr:List Ent}
theorem Kp.now (h:Kp S w C):C w:=by obtain ⟨B,_,h⟩:=h;exact h w fun _ _=>rfl
theorem Kp.imp (h:Kp S w C) (k:∀ w,C w→D w):Kp S w D:=by
  obtain ⟨B,h1,h2⟩:=h;exact ⟨B,h1,fun w' hw=>k _ (h2 w' hw)⟩
theorem Kp.pure {p:Prop} (h:p):Kp S w fun _=>p:=⟨fun _=>False,fun _ h=>h.elim,fun _ _=>h⟩
theorem Kp.and (h:Kp S w C) (k:Kp S w D):Kp S w fun w=>C w∧D w:=by
  obtain ⟨B,h1,h2⟩:=h;obtain ⟨B',k1,k2⟩:=k
  exact ⟨fun b=>B b∨B' b,fun b hb=>hb.elim (h1 b) (k1 b),fun w' hw=>⟨h2 w' fun b hb=>hw b (.inl hb),k2 w' fun b hb=>hw b (.inr hb)⟩⟩
theorem Kp.all {ι:Type} {C:ι→World→Prop} (h:∀ i,Kp S w (C i)):Kp S w fun w=>∀ i,C i w:=
  ⟨fun b=>∃ i,(h i).choose b,fun b ⟨i,hi⟩=>(h i).choose_spec.1 b hi,fun w' hw i=>(h i).choose_spec.2 w' fun b hb=>hw b ⟨i,hb⟩⟩
theorem Kp.mono (h:Kp S w C) (hs:∀ b∈S',b∈S):Kp S' w C:=by
  obtain ⟨B,h1,h2⟩:=h;exact ⟨B,fun b hb=>⟨(h1 b hb).1,fun hh=>(h1 b hb).2 (hs _ hh)⟩,h2⟩
theorem Kp.no (h:Kp S w C):Kp [] w C:=h.mono fun _ hb=>by cases hb
theorem Kp.fromF (h:Kp (S++F) w C):Kp S w C:=h.mono fun _ hb=>List.mem_append.2 (.inl hb)
theorem Kp.freshF (h:Kp (S++F) w C):Kp F w C:=h.mono fun _ hb=>List.mem_append.2 (.inr hb)
theorem Kp.turn (h:Kp S w0 C) (hf:Fr S w0 w) (hn:∀ b,b<w0.heap.size→b∉S→b∉Sc):Kp Sc w C:=by
  obtain ⟨B,h1,h2⟩:=h
  refine ⟨B,fun b hb=>⟨Nat.lt_of_lt_of_le (h1 b hb).1 hf.size,hn b (h1 b hb).1 (h1 b hb).2⟩,fun w' hw=>h2 w' fun b hb=>(hw b hb).trans (hf.block b (h1 b hb).1 (h1 b hb).2)⟩
theorem Kp.on (h:Kp S w0 C) (hS:St S w0 w (Lc++Lr)) (hSc:∀ b∈Sc,∃ e∈Lc,e.own=some b):Kp Sc w C:=by
  refine h.turn hS.fr fun b hb hn hin=>?_
  obtain ⟨e,he,ho⟩:=hSc b hin
  rcases hS.own e (by simp [he]) _ ho with h1 | h1
  · exact hn h1
  · omega
theorem Kp.on0 (h:Kp S w0 C) (hS:St S w0 w L):Kp [] w C:=h.on (Lc:=[]) (Lr:=L) hS (by simp)
theorem Kp.again (h:Kp S w0 C) (hS:St S w0 w L):Kp (Lown L) w C:=
  h.on (Lc:=L) (Lr:=[]) (by rw [List.append_nil];exact hS) lown_mem
theorem Kp.againF (h:Kp (S++F) w0 C) (hS:St S w0 w L):Kp (Lown L++F) w C:=by
  obtain ⟨B,h1,h2⟩:=h
  refine ⟨B,fun b hb=>?_,fun w' hw=>h2 w' fun b hb=>(hw b hb).trans (hS.fr.block b (h1 b hb).1 fun hh=>(h1 b hb).2 (List.mem_append.2 (.inl hh)))⟩
  have hn:=h1 b hb
  refine ⟨Nat.lt_of_lt_of_le hn.1 hS.fr.size,fun hh=>?_⟩
  rcases List.mem_append.1 hh with hh | hh
  · obtain ⟨e,he,ho⟩:=lown_mem b hh
    rcases hS.own e he _ ho with h3 | h3
    · exact hn.2 (List.mem_append.2 (.inl h3))
    · omega
  · exact hn.2 (List.mem_append.2 (.inr hh))
theorem Kp.old {S2:List Nat} {w2:World} (h:Kp S w0 C) (ho:Old S w0 S2 w2):Kp S2 w2 C:=by
  obtain ⟨B,h1,h2⟩:=h
  exact ⟨B,fun b hb=>⟨(ho b (h1 b hb).1 (h1 b hb).2).1,(ho b (h1 b hb).1 (h1 b hb).2).2.1⟩,fun w' hw=>h2 w' fun b hb=>(hw b hb).trans (ho b (h1 b hb).1 (h1 b hb).2).2.2⟩
theorem Kp.held (h:Kp S w0 C) (hS:St S w0 w L):C w:=(h.on0 hS).now
end
section
variable {S:List Nat} {w:World} {A:Option Addr} {cs:List Value}
theorem cell_of {w w':World} {a:Addr} (h:w'.heap[a.block]? = w.heap[a.block]?):w'.cell? a=w.cell? a:=World.cell?_of_block h
theorem RO.kp (h:RO S w A cs):Kp S w fun w=>Cells w A cs:=by
  refine ⟨fun b=>∃ (j:Nat) (v:Value) (a:Addr),cs[j]? = some v∧A=some a∧a.block=b,?_,?_⟩
  · rintro b ⟨j,v,a,hv,rfl,rfl⟩
    obtain ⟨a',e,hb,hn,_⟩:=h j v hv
    injection e with e;subst e
    exact ⟨hb,hn⟩
  · intro w' hw j v hv
    obtain ⟨a,rfl,hb,hn,hc⟩:=h j v hv
    refine ⟨a,rfl,?_⟩
    rw [← hc]
    exact World.cell?_of_block (by rw [add_block];exact hw _ ⟨j,v,a,hv,rfl,rfl⟩)
theorem cell_map {w:World} {a:Addr} {es:Array MapEntry} {c:Nat} (h:w.heap[a.block]? = some (.map es c)):w.cell? a=none:=by
  unfold World.cell?;rw [h]
theorem cell_none {w:World} {a:Addr} (h:w.heap[a.block]? = none):w.cell? a=none:=by
  unfold World.cell?;rw [h]
theorem Kp.ro (h:Kp S w fun w=>Cells w A cs):RO S w A cs:=by
  obtain ⟨B,h1,h2⟩:=h
  intro j v hv
  obtain ⟨a,rfl,hc⟩:=h2 w (fun _ _=>rfl) j v hv
  by_cases hb:B a.block
  · exact ⟨a,rfl,(h1 _ hb).1,(h1 _ hb).2,hc⟩
  · exfalso
    have hb2:B (a.add j).block→False:=by rw [add_block];exact hb
    obtain ⟨a2,e,hc2⟩:=h2 { w with heap:=w.heap.setIfInBounds (a.add j).block (.map #[] 0) } (fun b hB=>by
      show (w.heap.setIfInBounds (a.add j).block _)[b]? = _
      rw [Array.getElem?_setIfInBounds,if_neg (fun e:(a.add j).block=b=>hb2 (by rw [e];exact hB))]) j v hv
    injection e with e;subst e
    by_cases hlt:(a.add j).block<w.heap.size
    · rw [cell_map (es:=#[]) (c:=0) (by show (w.heap.setIfInBounds (a.add j).block _)[(a.add j).block]? = _;rw [Array.getElem?_setIfInBounds,if_pos rfl,if_pos hlt])] at hc2;cases hc2
    · rw [cell_none (by show (w.heap.setIfInBounds (a.add j).block _)[(a.add j).block]? = _;rw [Array.getElem?_setIfInBounds,if_pos rfl,if_neg hlt])] at hc2;cases hc2
end
section
variable {S:List Nat} {w00 w0 w:World} {C:World→Prop} {Lc Lr:List Ent}
end
section
variable {E:Env} {P:Program} {x y z:Operand} {dst:Option Nat} {t t' ty u:TypeId} {pos:String} {af:Array Edge} {g:Option (Nat × Bool)} {κ:Type} [DecidableEq κ]
end
def okL {α:Type} [Inhabited α] (ok:α→World→Prop) (l:List α) (w:World):Prop:=∀ i:Nat,ok (l.getD i default) w
section
variable {α:Type} [Inhabited α] {ok:α→World→Prop} {S:List Nat} {w:World} {l m:List α}
theorem okL_at (h:Kp S w (okL ok l)) (i:Nat):Kp S w (ok (l.getD i default)):=h.imp fun _ k=>k i
end
theorem okL_nil {α:Type} [Inhabited α] {ok:α→World→Prop} {S:List Nat} {w:World} (h:Kp S w (ok default)):Kp S w (okL ok ([]:List α)):=Kp.all fun _=>h
section
variable {S Sc:List Nat} {w0 w wc wb w00:World} {L L' Lc Lr:List Ent} {C:World→Prop}
end
def kvS (p:Bytes × Bytes):Bytes × Value:=(p.1,vS p.2)
def putK {α:Type} : List (Bytes × α)→Bytes→α→List (Bytes × α)
  | [],k,v=>[(k,v)]
  | (a,u)::l,k,v=>if k=a then (k,v)::l else (a,u)::putK l k v
def lookK {α:Type} (l:List (Bytes × α)) (k:Bytes):Option α:=(l.find? fun p=>p.1=k).map (·.2)
theorem lk_map {α:Type} (enc:α→Value) (k:Bytes):∀ l:List (Bytes × α),lk (l.map fun p=>(p.1,enc p.2)) k=(lookK l k).map enc
  | []=>rfl
  | (a,v)::l=>by
    have ih:=lk_map enc k l
    unfold lookK at *
    rw [List.map_cons,lk,List.find?_cons]
    by_cases h:k=a
    · subst h;rw [if_pos rfl];simp
    · rw [if_neg h,ih]
      rw [show decide ((a,v).1=k)=false from decide_eq_false (fun e:a=k=>h e.symm)]
end Go.GV
namespace Go.Proofs.YtggobegaiijhhaaGreatDoor
open Go.GV
structure DataSet where
  Id:Int
  Org:Int
  Format:Int
  Length:Int
  Block:Int
  KeyAt:Int
  KeyLength:Int
  Interval:Int
  Area:Int
  FreeInterval:Int
  FreeArea:Int
  Base:Int
  AltAt:Int
  AltLength:Int
  Unique:Bool
  Class:Int
  Volume:Bytes
  Owner:Bytes
  Created:Int
  Expires:Int
  Archived:Bool
deriving DecidableEq,Inhabited
def DataSet.enc (a:DataSet):List Value:=[vI a.Id,vI a.Org,vI a.Format,vI a.Length,vI a.Block,vI a.KeyAt,vI a.KeyLength,vI a.Interval,vI a.Area,vI a.FreeInterval,vI a.FreeArea,vI a.Base,vI a.AltAt,vI a.AltLength,vB a.Unique,vI a.Class,vS a.Volume,vS a.Owner,vI a.Created,vI a.Expires,vB a.Archived]
theorem DataSet.enc_len (a:DataSet):(DataSet.enc a).length=21:=rfl
theorem DataSet.enc_one (a:DataSet):(DataSet.enc a).all Value.oneCell'=true:=rfl
structure Binding where
  Name:Bytes
  Data:Bytes
  Group:Bool
  Relative:Int
  Step:Bytes
  From:Bytes
  Status:Int
  Normal:Int
  Abnormal:Int
  DSet:DataSet
  Tracks:Int
  More:Int
  Inline:Bool
  Lines:List Bytes
  LinesA:Option Addr
  LinesC:Nat
  Dummy:Bool
  BName:Bytes
  Kind:Int
  EName:Bytes
  EData:DataSet
  AltsA:Option Addr
  AltsN:Nat
  AltsC:Nat
  Used:Int
  Limit:Int
  Last:Int
  Empty:Bool
  Owner:Bytes
  Target:Bytes
  Catalog:Int
  Level:Int
  GrantsA:Option Addr
  GrantsN:Nat
  GrantsC:Nat
  Create:Bool
  Set:DataSet
deriving Inhabited
def Binding.enc (a:Binding):List Value:=[vS a.Name,vS a.Data,vB a.Group,vI a.Relative,vS a.Step,vS a.From,vI a.Status,vI a.Normal,vI a.Abnormal,vI a.DSet.Id,vI a.DSet.Org,vI a.DSet.Format,vI a.DSet.Length,vI a.DSet.Block,vI a.DSet.KeyAt,vI a.DSet.KeyLength,vI a.DSet.Interval,vI a.DSet.Area,vI a.DSet.FreeInterval,vI a.DSet.FreeArea,vI a.DSet.Base,vI a.DSet.AltAt,vI a.DSet.AltLength,vB a.DSet.Unique,vI a.DSet.Class,vS a.DSet.Volume,vS a.DSet.Owner,vI a.DSet.Created,vI a.DSet.Expires,vB a.DSet.Archived,vI a.Tracks,vI a.More,vB a.Inline,vL a.LinesA a.Lines.length a.LinesC,vB a.Dummy,vS a.BName,vI a.Kind,vS a.EName,vI a.EData.Id,vI a.EData.Org,vI a.EData.Format,vI a.EData.Length,vI a.EData.Block,vI a.EData.KeyAt,vI a.EData.KeyLength,vI a.EData.Interval,vI a.EData.Area,vI a.EData.FreeInterval,vI a.EData.FreeArea,vI a.EData.Base,vI a.EData.AltAt,vI a.EData.AltLength,vB a.EData.Unique,vI a.EData.Class,vS a.EData.Volume,vS a.EData.Owner,vI a.EData.Created,vI a.EData.Expires,vB a.EData.Archived,vL a.AltsA a.AltsN a.AltsC,vI a.Used,vI a.Limit,vI a.Last,vB a.Empty,vS a.Owner,vS a.Target,vI a.Catalog,vI a.Level,vL a.GrantsA a.GrantsN a.GrantsC,vB a.Create,vI a.Set.Id,vI a.Set.Org,vI a.Set.Format,vI a.Set.Length,vI a.Set.Block,vI a.Set.KeyAt,vI a.Set.KeyLength,vI a.Set.Interval,vI a.Set.Area,vI a.Set.FreeInterval,vI a.Set.FreeArea,vI a.Set.Base,vI a.Set.AltAt,vI a.Set.AltLength,vB a.Set.Unique,vI a.Set.Class,vS a.Set.Volume,vS a.Set.Owner,vI a.Set.Created,vI a.Set.Expires,vB a.Set.Archived]
theorem Binding.enc_len (a:Binding):(Binding.enc a).length=91:=rfl
theorem Binding.enc_one (a:Binding):(Binding.enc a).all Value.oneCell'=true:=rfl
structure SRow where
  Id:Int
  Key:Bytes
  Record:Bytes
deriving DecidableEq,Inhabited
def SRow.enc (a:SRow):List Value:=[vI a.Id,vS a.Key,vS a.Record]
theorem SRow.enc_len (a:SRow):(SRow.enc a).length=3:=rfl
theorem SRow.enc_one (a:SRow):(SRow.enc a).all Value.oneCell'=true:=rfl
structure Change where
  Kind:Int
  Id:Int
  Key:Bytes
  Record:Bytes
  Volume:Bytes
deriving DecidableEq,Inhabited
def Change.enc (a:Change):List Value:=[vI a.Kind,vI a.Id,vS a.Key,vS a.Record,vS a.Volume]
theorem Change.enc_len (a:Change):(Change.enc a).length=5:=rfl
theorem Change.enc_one (a:Change):(Change.enc a).all Value.oneCell'=true:=rfl
def Binding.ok (e:Binding) (w:World):Prop:=Cells w e.LinesA (e.Lines.map vS)
end Go.Proofs.YtggobegaiijhhaaGreatDoor
namespace Go.Proofs.YtggobegaiijhhaaGreatDoor
open Go.GV
section
variable {P:Program} {t:TypeId}
theorem open_cap {e:TypeId} (ht:P.underlying t=some (.slice e)):OpenAt P t fun _ cs=>∃ (A:Option Addr) (l c:Nat),cs=[.slice A l c]∧l≤c:=by
  intro H enc w fuel cs x hx
  rcases Deep.open_slice ht hx with ⟨rfl,_⟩ | ⟨a,len,cap,m,n,D,Pl,rfl,_,hlc,_⟩
  · exact ⟨none,0,0,rfl,Nat.le_refl _⟩
  · exact ⟨some a,len,cap,rfl,hlc⟩
end
namespace Ty
def _root_.Go.Proofs.YtggobegaiijhhaaGreatDoor.SRow.ok (a:SRow):Prop:=(-9223372036854775808≤a.Id∧a.Id≤9223372036854775807)∧a.Key.length≤9223372036854775807∧a.Record.length≤9223372036854775807
def _root_.Go.Proofs.YtggobegaiijhhaaGreatDoor.DataSet.ok (a:DataSet):Prop:=(-9223372036854775808≤a.Id∧a.Id≤9223372036854775807)∧(-9223372036854775808≤a.Org∧a.Org≤9223372036854775807)∧(-9223372036854775808≤a.Format∧a.Format≤9223372036854775807)∧(-9223372036854775808≤a.Length∧a.Length≤9223372036854775807)∧(-9223372036854775808≤a.Block∧a.Block≤9223372036854775807)∧(-9223372036854775808≤a.KeyAt∧a.KeyAt≤9223372036854775807)∧(-9223372036854775808≤a.KeyLength∧a.KeyLength≤9223372036854775807)∧(-9223372036854775808≤a.Interval∧a.Interval≤9223372036854775807)∧(-9223372036854775808≤a.Area∧a.Area≤9223372036854775807)∧(-9223372036854775808≤a.FreeInterval∧a.FreeInterval≤9223372036854775807)∧(-9223372036854775808≤a.FreeArea∧a.FreeArea≤9223372036854775807)∧(-9223372036854775808≤a.Base∧a.Base≤9223372036854775807)∧(-9223372036854775808≤a.AltAt∧a.AltAt≤9223372036854775807)∧(-9223372036854775808≤a.AltLength∧a.AltLength≤9223372036854775807)∧(-9223372036854775808≤a.Class∧a.Class≤9223372036854775807)∧a.Volume.length≤9223372036854775807∧a.Owner.length≤9223372036854775807∧(-9223372036854775808≤a.Created∧a.Created≤9223372036854775807)∧(-9223372036854775808≤a.Expires∧a.Expires≤9223372036854775807)
def _root_.Go.Proofs.YtggobegaiijhhaaGreatDoor.Binding.okW (w:World) (a:Binding):Prop:=RO [] w a.LinesA (a.Lines.map vS)∧a.Lines.length≤9223372036854775807
end Ty
end Go.Proofs.YtggobegaiijhhaaGreatDoor
namespace Go.Proofs
open Go.Shelf
open Go.RowKit Go.Lib Go.Sort
def Tryz.laysM171_ren:Go.Shelf.Ren:=⟨fun | 171=>19 | 243=>28 | 246=>38 | 283=>71 | 284=>72 | 285=>73 | 286=>74 | 129=>110 | 317=>109 | 318=>111 | 319=>112 | 320=>113 | 337=>147 | 338=>148 | n=>n,fun | 3=>3 | 9=>9 | 2=>2 | 4=>4 | 171=>113 | 0=>0 | 53=>114 | 37=>117 | 5=>5 | 173=>118 | 212=>157 | 51=>158 | 20=>20 | 213=>159 | 46=>122 | 232=>227 | 233=>228 | n=>n,fun | 17=>1 | 18=>2 | 19=>3 | n=>n⟩
theorem Tryz.laysM171:Go.Proofs.LaysM.n171 Tryz.prog Tryz.laysM171_ren:={
  mixed:=by kernel_rfl
  f129:=Tryz.func110.trans (congrArg some (by kernel_rfl))
  f171:=Tryz.func19.trans (congrArg some (by kernel_rfl))
  f243:=Tryz.func28.trans (congrArg some (by kernel_rfl))
  f246:=Tryz.func38.trans (congrArg some (by kernel_rfl))
  f283:=Tryz.func71.trans (congrArg some (by kernel_rfl))
  f284:=Tryz.func72.trans (congrArg some (by kernel_rfl))
  f285:=Tryz.func73.trans (congrArg some (by kernel_rfl))
  f286:=Tryz.func74.trans (congrArg some (by kernel_rfl))
  f317:=Tryz.func109.trans (congrArg some (by kernel_rfl))
  f318:=Tryz.func111.trans (congrArg some (by kernel_rfl))
  f319:=Tryz.func112.trans (congrArg some (by kernel_rfl))
  f320:=Tryz.func113.trans (congrArg some (by kernel_rfl))
  f337:=Tryz.func147.trans (congrArg some (by kernel_rfl))
  f338:=Tryz.func148.trans (congrArg some (by kernel_rfl))
  t0:=Tryz.underlying0
  a0:=Tryz.isAgg0
  z0:=Tryz.sizeOf0
  v0:=Tryz.zeroValue0
  t2:=Tryz.underlying2
  a2:=Tryz.isAgg2
  z2:=Tryz.sizeOf2
  v2:=Tryz.zeroValue2
  t3:=Tryz.underlying3
  a3:=Tryz.isAgg3
  z3:=Tryz.sizeOf3
  v3:=Tryz.zeroValue3
  t4:=Tryz.underlying4
  a4:=Tryz.isAgg4
  z4:=Tryz.sizeOf4
  v4:=Tryz.zeroValue4
  t5:=Tryz.underlying5
  a5:=Tryz.isAgg5
  z5:=Tryz.sizeOf5
  v5:=Tryz.zeroValue5
  t9:=Tryz.underlying9
  a9:=Tryz.isAgg9
  z9:=Tryz.sizeOf9
  v9:=Tryz.zeroValue9
  t20:=Tryz.underlying20
  a20:=Tryz.isAgg20
  z20:=Tryz.sizeOf20
  v20:=Tryz.zeroValue20
  t37:=Tryz.underlying117
  a37:=Tryz.isAgg117
  z37:=Tryz.sizeOf117
  v37:=Tryz.zeroValue117
  t46:=Tryz.underlying122
  a46:=Tryz.isAgg122
  z46:=Tryz.sizeOf122
  v46:=Tryz.zeroValue122
  t51:=Tryz.underlying158
  a51:=Tryz.isAgg158
  z51:=Tryz.sizeOf158
  v51:=Tryz.zeroValue158
  t53:=Tryz.underlying114
  a53:=Tryz.isAgg114
  z53:=Tryz.sizeOf114
  v53:=Tryz.zeroValue114
  t171:=Tryz.underlying113
  a171:=Tryz.isAgg113
  z171:=Tryz.sizeOf113
  v171:=Tryz.zeroValue113
  t173:=Tryz.underlying118
  a173:=Tryz.isAgg118
  z173:=Tryz.sizeOf118
  v173:=Tryz.zeroValue118
  t212:=Tryz.underlying157
  a212:=Tryz.isAgg157
  z212:=Tryz.sizeOf157
  v212:=Tryz.zeroValue157
  t213:=Tryz.underlying159
  a213:=Tryz.isAgg159
  z213:=Tryz.sizeOf159
  t232:=Tryz.underlying227
  a232:=Tryz.isAgg227
  z232:=Tryz.sizeOf227
  v232:=Tryz.zeroValue227
  t233:=Tryz.underlying228
  a233:=Tryz.isAgg228
  z233:=Tryz.sizeOf228
  v233:=Tryz.zeroValue228
  g17:=by kernel_rfl
  g18:=by kernel_rfl
  g19:=by kernel_rfl
  i0:=by kernel_rfl
  i2:=by kernel_rfl
  i3:=by kernel_rfl
  i4:=by kernel_rfl
  i5:=by kernel_rfl
  i9:=by kernel_rfl
  i20:=by kernel_rfl
  i37:=by kernel_rfl
  i46:=by kernel_rfl
  i51:=by kernel_rfl
  i53:=by kernel_rfl
  i171:=by kernel_rfl
  i173:=by kernel_rfl
  i212:=by kernel_rfl
  i232:=by kernel_rfl
  i233:=by kernel_rfl
  m17:=by kernel_rfl
  m18:=by kernel_rfl
  m19:=by kernel_rfl }
theorem Tryz.strconv_Itoa (n:Int) (h0 : -9223372036854775808≤n) (h1:n≤9223372036854775807) (w:World) (htab:Lib.TabIs Tryz.prog w "internal/strconv.uint64pow10" .u64 Lib.pow10Tab) :
    Calls Tryz.prog 19 #[.int .i64 n] w fun e w'=>e = .returned (.string ⟨(Lib.itoa n).toArray⟩) ∧ ∃ k os,w'=grow (w.drewN k) os:=Any.strconv_Itoa Tryz.laysM171 n h0 h1 w htab
def Tryz.laysC172_ren:Go.Shelf.Ren:=⟨fun | 172=>82 | 244=>126 | 245=>127 | 247=>155 | 279=>156 | 280=>157 | 281=>158 | 282=>159 | 287=>172 | 316=>173 | 171=>19 | 205=>174 | 321=>184 | 322=>185 | 243=>28 | 246=>38 | 283=>71 | 284=>72 | 285=>73 | 286=>74 | 129=>110 | 317=>109 | 318=>111 | 319=>112 | 320=>113 | 337=>147 | 338=>148 | n=>n,fun | 9=>9 | 3=>3 | 75=>127 | 76=>128 | 4=>4 | 5=>5 | 167=>201 | 37=>117 | 0=>0 | 85=>202 | 2=>2 | 168=>204 | 53=>114 | 175=>232 | 46=>122 | 210=>235 | 127=>246 | 145=>249 | 143=>247 | 21=>21 | 171=>113 | 173=>118 | 212=>157 | 51=>158 | 20=>20 | 213=>159 | 232=>227 | 233=>228 | 80=>264 | n=>n,fun | 15=>4 | 16=>5 | 17=>1 | 18=>2 | 19=>3 | n=>n⟩
theorem Tryz.laysC172:Go.Proofs.LaysC.n172 Tryz.prog Tryz.laysC172_ren:={
  mixed:=by kernel_rfl
  f129:=Tryz.func110.trans (congrArg some (by kernel_rfl))
  f171:=Tryz.func19.trans (congrArg some (by kernel_rfl))
  f172:=Tryz.func82.trans (congrArg some (by kernel_rfl))
  f205:=Tryz.func174.trans (congrArg some (by kernel_rfl))
  f243:=Tryz.func28.trans (congrArg some (by kernel_rfl))
  f244:=Tryz.func126.trans (congrArg some (by kernel_rfl))
  f245:=Tryz.func127.trans (congrArg some (by kernel_rfl))
  f246:=Tryz.func38.trans (congrArg some (by kernel_rfl))
  f247:=Tryz.func155.trans (congrArg some (by kernel_rfl))
  f279:=Tryz.func156.trans (congrArg some (by kernel_rfl))
  f280:=Tryz.func157.trans (congrArg some (by kernel_rfl))
  f281:=Tryz.func158.trans (congrArg some (by kernel_rfl))
  f282:=Tryz.func159.trans (congrArg some (by kernel_rfl))
  f283:=Tryz.func71.trans (congrArg some (by kernel_rfl))
  f284:=Tryz.func72.trans (congrArg some (by kernel_rfl))
  f285:=Tryz.func73.trans (congrArg some (by kernel_rfl))
  f286:=Tryz.func74.trans (congrArg some (by kernel_rfl))
  f287:=Tryz.func172.trans (congrArg some (by kernel_rfl))
  f316:=Tryz.func173.trans (congrArg some (by kernel_rfl))
  f317:=Tryz.func109.trans (congrArg some (by kernel_rfl))
  f318:=Tryz.func111.trans (congrArg some (by kernel_rfl))
  f319:=Tryz.func112.trans (congrArg some (by kernel_rfl))
  f320:=Tryz.func113.trans (congrArg some (by kernel_rfl))
  f321:=Tryz.func184.trans (congrArg some (by kernel_rfl))
  f322:=Tryz.func185.trans (congrArg some (by kernel_rfl))
  f337:=Tryz.func147.trans (congrArg some (by kernel_rfl))
  f338:=Tryz.func148.trans (congrArg some (by kernel_rfl))
  t0:=Tryz.underlying0
  a0:=Tryz.isAgg0
  z0:=Tryz.sizeOf0
  v0:=Tryz.zeroValue0
  t2:=Tryz.underlying2
  a2:=Tryz.isAgg2
  z2:=Tryz.sizeOf2
  v2:=Tryz.zeroValue2
  t3:=Tryz.underlying3
  a3:=Tryz.isAgg3
  z3:=Tryz.sizeOf3
  v3:=Tryz.zeroValue3
  t4:=Tryz.underlying4
  a4:=Tryz.isAgg4
  z4:=Tryz.sizeOf4
  v4:=Tryz.zeroValue4
  t5:=Tryz.underlying5
  a5:=Tryz.isAgg5
  z5:=Tryz.sizeOf5
  v5:=Tryz.zeroValue5
  t9:=Tryz.underlying9
  a9:=Tryz.isAgg9
  z9:=Tryz.sizeOf9
  v9:=Tryz.zeroValue9
  t20:=Tryz.underlying20
  a20:=Tryz.isAgg20
  z20:=Tryz.sizeOf20
  v20:=Tryz.zeroValue20
  t21:=Tryz.underlying21
  a21:=Tryz.isAgg21
  z21:=Tryz.sizeOf21
  v21:=Tryz.zeroValue21
  t37:=Tryz.underlying117
  a37:=Tryz.isAgg117
  z37:=Tryz.sizeOf117
  v37:=Tryz.zeroValue117
  t46:=Tryz.underlying122
  a46:=Tryz.isAgg122
  z46:=Tryz.sizeOf122
  v46:=Tryz.zeroValue122
  t51:=Tryz.underlying158
  a51:=Tryz.isAgg158
  z51:=Tryz.sizeOf158
  v51:=Tryz.zeroValue158
  t53:=Tryz.underlying114
  a53:=Tryz.isAgg114
  z53:=Tryz.sizeOf114
  v53:=Tryz.zeroValue114
  t75:=Tryz.underlying127
  a75:=Tryz.isAgg127
  z75:=Tryz.sizeOf127
  v75:=Tryz.zeroValue127
  t76:=Tryz.underlying128
  a76:=Tryz.isAgg128
  z76:=Tryz.sizeOf128
  v76:=Tryz.zeroValue128
  t85:=Tryz.underlying202
  a85:=Tryz.isAgg202
  z85:=Tryz.sizeOf202
  v85:=Tryz.zeroValue202
  t127:=Tryz.underlying246
  a127:=Tryz.isAgg246
  z127:=Tryz.sizeOf246
  v127:=Tryz.zeroValue246
  t143:=Tryz.underlying247
  a143:=Tryz.isAgg247
  z143:=Tryz.sizeOf247
  v143:=Tryz.zeroValue247
  t145:=Tryz.underlying249
  a145:=Tryz.isAgg249
  z145:=Tryz.sizeOf249
  v145:=Tryz.zeroValue249
  t167:=Tryz.underlying201
  a167:=Tryz.isAgg201
  z167:=Tryz.sizeOf201
  v167:=Tryz.zeroValue201
  t168:=Tryz.underlying204
  a168:=Tryz.isAgg204
  z168:=Tryz.sizeOf204
  v168:=Tryz.zeroValue204
  t171:=Tryz.underlying113
  a171:=Tryz.isAgg113
  z171:=Tryz.sizeOf113
  v171:=Tryz.zeroValue113
  t173:=Tryz.underlying118
  a173:=Tryz.isAgg118
  z173:=Tryz.sizeOf118
  v173:=Tryz.zeroValue118
  t175:=Tryz.underlying232
  a175:=Tryz.isAgg232
  z175:=Tryz.sizeOf232
  v175:=Tryz.zeroValue232
  t210:=Tryz.underlying235
  a210:=Tryz.isAgg235
  z210:=Tryz.sizeOf235
  v210:=Tryz.zeroValue235
  t212:=Tryz.underlying157
  a212:=Tryz.isAgg157
  z212:=Tryz.sizeOf157
  v212:=Tryz.zeroValue157
  t213:=Tryz.underlying159
  a213:=Tryz.isAgg159
  z213:=Tryz.sizeOf159
  t232:=Tryz.underlying227
  a232:=Tryz.isAgg227
  z232:=Tryz.sizeOf227
  v232:=Tryz.zeroValue227
  t233:=Tryz.underlying228
  a233:=Tryz.isAgg228
  z233:=Tryz.sizeOf228
  v233:=Tryz.zeroValue228
  g15:=by kernel_rfl
  g16:=by kernel_rfl
  g17:=by kernel_rfl
  g18:=by kernel_rfl
  g19:=by kernel_rfl
  t80:=Tryz.underlying264
  a80:=Tryz.isAgg264
  z80:=Tryz.sizeOf264
  v80:=Tryz.zeroValue264
  i0:=by kernel_rfl
  i2:=by kernel_rfl
  i3:=by kernel_rfl
  i4:=by kernel_rfl
  i5:=by kernel_rfl
  i9:=by kernel_rfl
  i20:=by kernel_rfl
  i21:=by kernel_rfl
  i37:=by kernel_rfl
  i46:=by kernel_rfl
  i51:=by kernel_rfl
  i53:=by kernel_rfl
  i75:=by kernel_rfl
  i76:=by kernel_rfl
  i80:=by kernel_rfl
  i85:=by kernel_rfl
  i127:=by kernel_rfl
  i143:=by kernel_rfl
  i145:=by kernel_rfl
  i167:=by kernel_rfl
  i168:=by kernel_rfl
  i171:=by kernel_rfl
  i173:=by kernel_rfl
  i175:=by kernel_rfl
  i210:=by kernel_rfl
  i212:=by kernel_rfl
  i232:=by kernel_rfl
  i233:=by kernel_rfl
  m15:=by kernel_rfl
  m16:=by kernel_rfl
  m17:=by kernel_rfl
  m18:=by kernel_rfl
  m19:=by kernel_rfl
  c0:=by kernel_rfl
  c2:=by kernel_rfl
  c3:=by kernel_rfl
  c4:=by kernel_rfl
  c5:=by kernel_rfl
  c9:=by kernel_rfl
  c20:=by kernel_rfl
  c21:=by kernel_rfl
  c37:=by kernel_rfl
  c46:=by kernel_rfl
  c51:=by kernel_rfl
  c53:=by kernel_rfl
  c75:=by kernel_rfl
  c76:=by kernel_rfl
  c80:=by kernel_rfl
  c85:=by kernel_rfl
  c127:=by kernel_rfl
  c143:=by kernel_rfl
  c145:=by kernel_rfl
  c167:=by kernel_rfl
  c168:=by kernel_rfl
  c171:=by kernel_rfl
  c173:=by kernel_rfl
  c175:=by kernel_rfl
  c210:=by kernel_rfl
  c212:=by kernel_rfl
  c213:=by kernel_rfl
  c232:=by kernel_rfl
  c233:=by kernel_rfl }
theorem Tryz.strconv_Atoi_ok (s:ByteArray) (hmax:s.size≤9223372036854775806) (v:Int) (h:Lib.atoiAll s.data.toList = .ok v) (w:World) :
    Calls Tryz.prog 82 #[.string s] w fun e w'=>e = .returned (.tuple #[.int .i64 v,.nilIface])∧(w'=w ∨ ∃ t,w'=Lib.bytesWorld w 5 t):=Any.strconv_Atoi_ok Tryz.laysC172 s hmax v h w
theorem Tryz.strconv_Atoi_syntax (s:ByteArray) (hlim:s.size≤281474976710656) (h:(∀ v,Lib.atoiAll s.data.toList ≠ .ok v)∧Lib.atoiAll s.data.toList ≠ .range) (ev:Value) (w:World) (hv:w.cell? ⟨4,0,none⟩=some ev) (hev:ev = .nilIface ∨ ∃ te pe,ev = .iface te pe) :
    Calls Tryz.prog 82 #[.string s] w fun e w'=>∃ N,e = .returned (.tuple #[.int .i64 (0),.iface 204 (.pointer (some ⟨N,0,none⟩))])∧w.heap.size≤N∧w'.heap[N]? = some (.cells #[.string ⟨#[65,116,111,105]⟩,.string s,ev] 235 (0,0))∧Below w.heap.size w w':=Any.strconv_Atoi_syntax Tryz.laysC172 s hlim (by cases e:Lib.atoiAll s.data.toList <;> first | rfl | exact absurd e (h.1 _) | exact absurd e h.2) ev w hv hev
theorem Tryz.strconv_Atoi_range (s:ByteArray) (hlim:s.size≤281474976710656) (h:Lib.atoiAll s.data.toList = .range) (ev:Value) (w:World) (hv:w.cell? ⟨5,0,none⟩=some ev) (hev:ev = .nilIface ∨ ∃ te pe,ev = .iface te pe) :
    Calls Tryz.prog 82 #[.string s] w fun e w'=>∃ N,e = .returned (.tuple #[.int .i64 (Lib.atoiSat s.data.toList),.iface 204 (.pointer (some ⟨N,0,none⟩))])∧w.heap.size≤N∧w'.heap[N]? = some (.cells #[.string ⟨#[65,116,111,105]⟩,.string s,ev] 235 (0,0))∧Below w.heap.size w w':=Any.strconv_Atoi_range Tryz.laysC172 s hlim h ev w hv hev
def Tryz.lays144_ren:Go.Shelf.Ren:=⟨fun | 144=>20 | 143=>29 | 219=>39 | 217=>75 | 225=>76 | 224=>77 | 267=>78 | 266=>114 | 314=>115 | n=>n,fun | 9=>9 | 4=>4 | 3=>3 | 5=>5 | 46=>122 | 146=>161 | 51=>158 | n=>n,fun | 1=>0 | n=>n⟩
theorem Tryz.lays144:Go.Proofs.Lays.n144 Tryz.prog Tryz.lays144_ren:={
  mixed:=by kernel_rfl
  f143:=Tryz.func29.trans (congrArg some (by kernel_rfl))
  f144:=Tryz.func20.trans (congrArg some (by kernel_rfl))
  f217:=Tryz.func75.trans (congrArg some (by kernel_rfl))
  f219:=Tryz.func39.trans (congrArg some (by kernel_rfl))
  f224:=Tryz.func77.trans (congrArg some (by kernel_rfl))
  f225:=Tryz.func76.trans (congrArg some (by kernel_rfl))
  f266:=Tryz.func114.trans (congrArg some (by kernel_rfl))
  f267:=Tryz.func78.trans (congrArg some (by kernel_rfl))
  f314:=Tryz.func115.trans (congrArg some (by kernel_rfl))
  t3:=Tryz.underlying3
  a3:=Tryz.isAgg3
  z3:=Tryz.sizeOf3
  v3:=Tryz.zeroValue3
  t4:=Tryz.underlying4
  a4:=Tryz.isAgg4
  z4:=Tryz.sizeOf4
  v4:=Tryz.zeroValue4
  t5:=Tryz.underlying5
  a5:=Tryz.isAgg5
  z5:=Tryz.sizeOf5
  v5:=Tryz.zeroValue5
  t9:=Tryz.underlying9
  a9:=Tryz.isAgg9
  z9:=Tryz.sizeOf9
  v9:=Tryz.zeroValue9
  t46:=Tryz.underlying122
  a46:=Tryz.isAgg122
  z46:=Tryz.sizeOf122
  v46:=Tryz.zeroValue122
  t51:=Tryz.underlying158
  a51:=Tryz.isAgg158
  z51:=Tryz.sizeOf158
  v51:=Tryz.zeroValue158
  t146:=Tryz.underlying161
  a146:=Tryz.isAgg161
  z146:=Tryz.sizeOf161
  v146:=Tryz.zeroValue161
  g1:=by kernel_rfl }
theorem Tryz.strings_Contains_one (s:ByteArray) (c:UInt8) (w:World) :
    Calls Tryz.prog 20 #[.string s,.string ⟨#[c]⟩] w fun e w'=>e = .returned (.bool (decide (0≤Lib.indexByte s.data.toList c)))∧w'=w:=Any.strings_Contains_one Tryz.lays144 s c w
def Tryz.lays145_ren:Go.Shelf.Ren:=⟨fun | 145=>92 | 220=>131 | 219=>39 | 217=>75 | 225=>76 | 224=>77 | 267=>78 | 266=>114 | 314=>115 | n=>n,fun | 9=>9 | 4=>4 | 59=>136 | 3=>3 | 5=>5 | 46=>122 | 146=>161 | 51=>158 | n=>n,fun | 1=>0 | n=>n⟩
theorem Tryz.lays145:Go.Proofs.Lays.n145 Tryz.prog Tryz.lays145_ren:={
  mixed:=by kernel_rfl
  f145:=Tryz.func92.trans (congrArg some (by kernel_rfl))
  f217:=Tryz.func75.trans (congrArg some (by kernel_rfl))
  f219:=Tryz.func39.trans (congrArg some (by kernel_rfl))
  f220:=Tryz.func131.trans (congrArg some (by kernel_rfl))
  f224:=Tryz.func77.trans (congrArg some (by kernel_rfl))
  f225:=Tryz.func76.trans (congrArg some (by kernel_rfl))
  f266:=Tryz.func114.trans (congrArg some (by kernel_rfl))
  f267:=Tryz.func78.trans (congrArg some (by kernel_rfl))
  f314:=Tryz.func115.trans (congrArg some (by kernel_rfl))
  t3:=Tryz.underlying3
  a3:=Tryz.isAgg3
  z3:=Tryz.sizeOf3
  v3:=Tryz.zeroValue3
  t4:=Tryz.underlying4
  a4:=Tryz.isAgg4
  z4:=Tryz.sizeOf4
  v4:=Tryz.zeroValue4
  t5:=Tryz.underlying5
  a5:=Tryz.isAgg5
  z5:=Tryz.sizeOf5
  v5:=Tryz.zeroValue5
  t9:=Tryz.underlying9
  a9:=Tryz.isAgg9
  z9:=Tryz.sizeOf9
  v9:=Tryz.zeroValue9
  t46:=Tryz.underlying122
  a46:=Tryz.isAgg122
  z46:=Tryz.sizeOf122
  v46:=Tryz.zeroValue122
  t51:=Tryz.underlying158
  a51:=Tryz.isAgg158
  z51:=Tryz.sizeOf158
  v51:=Tryz.zeroValue158
  t59:=Tryz.underlying136
  a59:=Tryz.isAgg136
  z59:=Tryz.sizeOf136
  v59:=Tryz.zeroValue136
  t146:=Tryz.underlying161
  a146:=Tryz.isAgg161
  z146:=Tryz.sizeOf161
  v146:=Tryz.zeroValue161
  g1:=by kernel_rfl }
theorem Tryz.strings_Cut (s sep:ByteArray) (m:Int) (w:World) (hs:s.size<4294967281) (hm:w.cell? ⟨0,0,none⟩=some (.int .i64 m)) :
    Calls Tryz.prog 92 #[.string s,.string sep] w fun e w'=>e = .returned (.tuple #[.string ⟨(Lib.cut s.data.toList sep.data.toList).1.toArray⟩,.string ⟨(Lib.cut s.data.toList sep.data.toList).2.1.toArray⟩,.bool (Lib.cut s.data.toList sep.data.toList).2.2]) ∧ ∃ n,w'=w.drewN n:=Any.strings_Cut Tryz.lays145 s sep m w hs hm
def Tryz.lays190_ren:Go.Shelf.Ren:=⟨fun | 190=>41 | 125=>81 | 258=>80 | 128=>125 | 129=>110 | 302=>116 | 303=>117 | 304=>118 | 305=>119 | 306=>120 | 307=>121 | 308=>122 | 309=>123 | 310=>124 | 333=>149 | 329=>150 | 330=>151 | 334=>152 | 335=>153 | 336=>154 | 344=>171 | n=>n,fun | 31=>25 | 9=>9 | 3=>3 | 46=>122 | 0=>0 | 51=>158 | 53=>114 | 4=>4 | 183=>165 | 182=>164 | 131=>108 | 5=>5 | 218=>195 | 222=>199 | 228=>229 | 229=>230 | n=>n,fun | n=>n⟩
theorem Tryz.lays190:Go.Proofs.Lays.n190 Tryz.prog Tryz.lays190_ren:={
  mixed:=by kernel_rfl
  f125:=Tryz.func81.trans (congrArg some (by kernel_rfl))
  f128:=Tryz.func125.trans (congrArg some (by kernel_rfl))
  f129:=Tryz.func110.trans (congrArg some (by kernel_rfl))
  f190:=Tryz.func41.trans (congrArg some (by kernel_rfl))
  f258:=Tryz.func80.trans (congrArg some (by kernel_rfl))
  f302:=Tryz.func116.trans (congrArg some (by kernel_rfl))
  f303:=Tryz.func117.trans (congrArg some (by kernel_rfl))
  f304:=Tryz.func118.trans (congrArg some (by kernel_rfl))
  f305:=Tryz.func119.trans (congrArg some (by kernel_rfl))
  f306:=Tryz.func120.trans (congrArg some (by kernel_rfl))
  f307:=Tryz.func121.trans (congrArg some (by kernel_rfl))
  f308:=Tryz.func122.trans (congrArg some (by kernel_rfl))
  f309:=Tryz.func123.trans (congrArg some (by kernel_rfl))
  f310:=Tryz.func124.trans (congrArg some (by kernel_rfl))
  f329:=Tryz.func150.trans (congrArg some (by kernel_rfl))
  f330:=Tryz.func151.trans (congrArg some (by kernel_rfl))
  f333:=Tryz.func149.trans (congrArg some (by kernel_rfl))
  f334:=Tryz.func152.trans (congrArg some (by kernel_rfl))
  f335:=Tryz.func153.trans (congrArg some (by kernel_rfl))
  f336:=Tryz.func154.trans (congrArg some (by kernel_rfl))
  f344:=Tryz.func171.trans (congrArg some (by kernel_rfl))
  t0:=Tryz.underlying0
  a0:=Tryz.isAgg0
  z0:=Tryz.sizeOf0
  v0:=Tryz.zeroValue0
  t3:=Tryz.underlying3
  a3:=Tryz.isAgg3
  z3:=Tryz.sizeOf3
  v3:=Tryz.zeroValue3
  t4:=Tryz.underlying4
  a4:=Tryz.isAgg4
  z4:=Tryz.sizeOf4
  v4:=Tryz.zeroValue4
  t5:=Tryz.underlying5
  a5:=Tryz.isAgg5
  z5:=Tryz.sizeOf5
  v5:=Tryz.zeroValue5
  t9:=Tryz.underlying9
  a9:=Tryz.isAgg9
  z9:=Tryz.sizeOf9
  v9:=Tryz.zeroValue9
  t31:=Tryz.underlying25
  a31:=Tryz.isAgg25
  z31:=Tryz.sizeOf25
  v31:=Tryz.zeroValue25
  t46:=Tryz.underlying122
  a46:=Tryz.isAgg122
  z46:=Tryz.sizeOf122
  v46:=Tryz.zeroValue122
  t51:=Tryz.underlying158
  a51:=Tryz.isAgg158
  z51:=Tryz.sizeOf158
  v51:=Tryz.zeroValue158
  t53:=Tryz.underlying114
  a53:=Tryz.isAgg114
  z53:=Tryz.sizeOf114
  v53:=Tryz.zeroValue114
  t131:=Tryz.underlying108
  a131:=Tryz.isAgg108
  z131:=Tryz.sizeOf108
  v131:=Tryz.zeroValue108
  t182:=Tryz.underlying164
  a182:=Tryz.isAgg164
  z182:=Tryz.sizeOf164
  v182:=Tryz.zeroValue164
  t183:=Tryz.underlying165
  a183:=Tryz.isAgg165
  z183:=Tryz.sizeOf165
  v183:=Tryz.zeroValue165
  t218:=Tryz.underlying195
  a218:=Tryz.isAgg195
  z218:=Tryz.sizeOf195
  v218:=Tryz.zeroValue195
  t222:=Tryz.underlying199
  a222:=Tryz.isAgg199
  z222:=Tryz.sizeOf199
  v222:=Tryz.zeroValue199
  t228:=Tryz.underlying229
  a228:=Tryz.isAgg229
  z228:=Tryz.sizeOf229
  v228:=Tryz.zeroValue229
  t229:=Tryz.underlying230
  a229:=Tryz.isAgg230
  z229:=Tryz.sizeOf230
  v229:=Tryz.zeroValue230 }
theorem Tryz.slices_Sort_string (blk off cap:Nat) (ss:List (List UInt8)) (w:World) (hH:Holds encStr w blk off ss.toArray) (hblk:blk<w.heap.size) (hsz:ss.length<4611686018427387904) :
    Calls Tryz.prog 41 #[.slice (some ⟨blk,off,none⟩) ss.length cap] w fun e w' =>
      e = .returned (.tuple #[]) ∧ ∃ n os,w'=grow (putRow encStr (Sort.ahead w n) blk off (ss.mergeSort fun x y=>decide (x≤y)).toArray) os:=Any.slices_Sort_string Tryz.lays190 blk off cap ss w hH hblk hsz
theorem Tryz.slices_Sort_string_none (p:Option Addr) (cap:Nat) (w:World) :
    Calls Tryz.prog 41 #[.slice p 0 cap] w fun e w'=>e = .returned (.tuple #[])∧w'=w:=Any.slices_Sort_string_none Tryz.lays190 p cap w
end Go.Proofs
