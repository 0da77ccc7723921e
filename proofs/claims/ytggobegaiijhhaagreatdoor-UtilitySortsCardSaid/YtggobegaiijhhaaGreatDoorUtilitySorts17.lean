/- Wd44, Pl44k, Pl44l, Pl44m, Pl44n, Pl45l, C45i, Sh45c, Ad45b, Ad44b, C44p, Ad44c, Eq44, Sh44, Rp in one text. -/
import Derived.Lib.FieldsP
import Derived.Lib.TrimUEq
import Derived.Lib.SplitLaws
import Derived.Lib.IndexBytes
import Derived.Test.YtggobegaiijhhaaGreatDoorUtilitySorts16
import Derived.Test.YtggobegaiijhhaaGreatDoorUtilitySorts7
import Derived.Lib.Join
import Derived.Test.YtggobegaiijhhaaGreatDoorUtilitySorts14
import Derived.Shelf.Strings.Builder1
import Derived.Shelf.Strings.Builder2
import Derived.Shelf.Strings.Trim
import Derived.Shelf.Small.Utf8
import Derived.Shelf.Small.Bits
import Derived.Shelf.Small.Strs
import Derived.Shelf.Small.Wraps
import Derived.Shelf.Strings.BuilderF
import Derived.Shelf.Strings.BuilderK
import Derived.Shelf.Utf8.RuneCount
import Derived.Shelf.Strings.Builder2Cap
import Derived.Shelf.Strconv.Atoi
import Derived.Shelf.Strconv.Itoa0
import Derived.Shelf.Strconv.Itoa1
import Derived.Shelf.LaysM
import Derived.Shelf.Strconv.Itoa2
import Derived.Shelf.Strconv.Itoa3
import Derived.Shelf.Strconv.AtoiErrFast
import Derived.Shelf.Strconv.ParseIntEmpty
import Derived.Shelf.Strconv.AtoiFail
import Derived.Shelf.Strconv.Clone
import Derived.Shelf.Strconv.SyntaxError
import Derived.Shelf.LaysC
import Derived.Shelf.Strconv.ToError
import Derived.Shelf.Strconv.AtoiErr
import Derived.Shelf.Strconv.Lower
import Derived.Shelf.Strconv.ParseUint10
import Derived.Shelf.Strconv.ParseUint10Empty
import Derived.Shelf.Strconv.ParseUint10Any
import Derived.Shelf.Strconv.ParseInt10
import Derived.Shelf.Strconv.AtoiLong
import Derived.Shelf.Strconv.AtoiInnerAll
import Derived.Shelf.Strconv.RangeError
import Derived.Shelf.Strconv.ToErrorRange
import Derived.Shelf.Strconv.AtoiAll
import Derived.Shelf.Strconv.ErrVarAll
import Derived.Shelf.Strings.Search1
import Derived.Shelf.Strings.Search2
import Derived.Shelf.Strings.Search3
import Derived.Shelf.Strings.Cut
import Derived.Shelf.Strings.Count
import Derived.Shelf.Strings.Shaped
import Derived.Shelf.Sort.Plain
import Derived.Shelf.Strings.Prefix
import Derived.Shelf.Strings.Split
import Derived.Shelf.Strings.SplitShaped
import Derived.Shelf.Unicode.Decode
import Derived.Shelf.Strings.Runes
import Derived.Shelf.Strings.RuneCount
import Derived.Shelf.Strings.AsciiSet
import Derived.Shelf.Strings.Explode
import Derived.Shelf.Bits.Mul64
import Derived.Shelf.Strings.Repeat
import Derived.Shelf.Unicode.DecodeSlow
import Derived.Shelf.Unicode.DecodeAny
import Derived.Shelf.Unicode.DecodeLast
import Derived.Shelf.Strings.FieldsFuncAny
import Derived.Shelf.Strings.FieldsFuncGrows
import Derived.Shelf.Slices.Turned
import Derived.Shelf.Slices.Equal
import Derived.Shelf.Slices.Clone
import Derived.Shelf.Slices.SearchI
import Derived.Shelf.Slices.In.SortNone
import Derived.Shelf.SlicesG.SearchI
import Derived.Shelf.SlicesE.Clone
import Derived.Test.YtggobegaiijhhaaGreatDoorUtilitySorts6
import Derived.Test.YtggobegaiijhhaaGreatDoorUtilitySorts3
import Derived.Test.YtggobegaiijhhaaGreatDoorUtilitySorts5
set_option linter.unusedVariables false
set_option linter.unusedSimpArgs false
namespace Go.Proofs.YtggobegaiijhhaaGreatDoor
namespace R44
open Go.Lib
abbrev Bs:=List UInt8
def wordsGo:Bs→Bs→List Bs
  | cur,[]=>if cur=[] then [] else [cur]
  | cur,c::r=>if c=32 then (if cur=[] then wordsGo [] r else cur::wordsGo [] r) else wordsGo (cur++[c]) r
def words (s:Bs):List Bs:=wordsGo [] s
theorem wordsGo_run:∀ (m cur rest:Bs),(∀ c∈m,c≠32)→wordsGo cur (m++rest)=wordsGo (cur++m) rest
  | [],cur,rest,_=>by simp
  | c::m,cur,rest,h=>by
    rw [List.cons_append,wordsGo,if_neg (h c List.mem_cons_self),wordsGo_run m _ rest fun x hx=>h x (List.mem_cons_of_mem _ hx)]
    simp
theorem decode_blank (s:ByteArray) (pos:Nat) (h:pos<s.data.toList.length) :
    (s.data.toList.getD pos 0=32→Utf8.decode s pos=(32,1))∧(s.data.toList.getD pos 0≠32→(Utf8.decode s pos).1≠32∧1≤(Utf8.decode s pos).2∧pos+(Utf8.decode s pos).2≤s.data.toList.length ∧ ∀ k,k<(Utf8.decode s pos).2→s.data.toList.getD (pos+k) 0≠32):=by
  rw [decode_N]
  generalize hL:s.data.toList=L at *
  have key:∀ x:UInt8,x=32↔x.toNat=32:=fun x=>⟨fun e=>by rw [e];rfl,fun e=>UInt8.toNat_inj.1 e⟩
  constructor
  · intro h0
    rw [(key _).1 h0];rfl
  · intro h0
    rw [ne_eq,key] at h0
    have h1:=UInt8.toNat_lt (L.getD pos 0)
    generalize hb0:(L.getD pos 0).toNat=b0 at *
    generalize hb1:(L.getD (pos+1) 0).toNat=b1
    generalize hb2:(L.getD (pos+2) 0).toNat=b2
    generalize hb3:(L.getD (pos+3) 0).toNat=b3
    have fin:∀ w r:Nat,r≠32→1≤w→w≤4→w≤L.length-pos→(2≤w→b1≠32)→(3≤w→b2≠32)→(4≤w→b3≠32)→((r,w):Nat × Nat).1≠32∧1≤((r,w):Nat × Nat).2∧pos+((r,w):Nat × Nat).2≤L.length ∧ ∀ k,k<((r,w):Nat × Nat).2→L.getD (pos+k) 0≠32:=by
      intro w r hr hw hw4 hl h2 h3 h4
      refine ⟨hr,hw,by simp only;omega,fun k hk=>?_⟩
      simp only at hk
      rw [ne_eq,key]
      rcases k with _ | _ | _ | _ | k
      · rw [Nat.add_zero,hb0];exact h0
      · rw [Nat.zero_add,hb1];exact h2 (by omega)
      · rw [Nat.zero_add,hb2];exact h3 (by omega)
      · rw [Nat.zero_add,hb3];exact h4 (by omega)
      · omega
    unfold decodeN
    split
    · exact fin 1 b0 h0 (by omega) (by omega) (by omega) (by omega) (by omega) (by omega)
    · split
      · rename_i c1
        split
        · exact fin 2 _ (by omega) (by omega) (by omega) (by omega) (by omega) (by omega) (by omega)
        · exact fin 1 _ (by omega) (by omega) (by omega) (by omega) (by omega) (by omega) (by omega)
      · split
        · rename_i c1
          split
          · exact fin 3 _ (by omega) (by omega) (by omega) (by omega) (by omega) (by omega) (by omega)
          · exact fin 1 _ (by omega) (by omega) (by omega) (by omega) (by omega) (by omega) (by omega)
        · split
          · rename_i c1
            split
            · exact fin 4 _ (by omega) (by omega) (by omega) (by omega) (by omega) (by omega) (by omega)
            · exact fin 1 _ (by omega) (by omega) (by omega) (by omega) (by omega) (by omega) (by omega)
          · exact fin 1 _ (by omega) (by omega) (by omega) (by omega) (by omega) (by omega) (by omega)
def piece (L:Bs) (x:Nat × Nat):Bs:=(L.drop x.1).take (x.2-x.1)
theorem extract_piece (s:ByteArray) (x:Nat × Nat):(s.extract x.1 x.2).data.toList=piece s.data.toList x:=by
  unfold piece
  rw [ByteArray.data_extract,Array.toList_extract]
theorem size_len (s:ByteArray):s.size=s.data.toList.length:=rfl
theorem drop_at {L:Bs} {k:Nat} (h:k<L.length):L.drop k=L.getD k 0::L.drop (k+1):=by
  rw [List.drop_eq_getElem_cons h,List.getD_eq_getElem?_getD,List.getElem?_eq_getElem h];rfl
theorem run_of {L:Bs} {pos w:Nat} (h:pos+w≤L.length) (hn:∀ k,k<w→L.getD (pos+k) 0≠32):∀ c∈(L.drop pos).take w,c≠32:=fun c hc=>by
  obtain ⟨i,hi,e⟩:=List.mem_iff_getElem.1 hc
  rw [List.length_take,List.length_drop] at hi
  have:=hn i (by omega)
  rw [List.getD_eq_getElem?_getD,List.getElem?_eq_getElem (by omega)] at this
  rw [← e,List.getElem_take,List.getElem_drop];exact this
theorem step_run {L:Bs} {pos w:Nat} (cur:Bs) (h:pos+w≤L.length) (hn:∀ k,k<w→L.getD (pos+k) 0≠32):wordsGo cur (L.drop pos)=wordsGo (cur++(L.drop pos).take w) (L.drop (pos+w)):=by
  conv=>lhs;rw [← List.take_append_drop w (L.drop pos),List.drop_drop]
  exact wordsGo_run _ _ _ (run_of h hn)
theorem grow {L:Bs} {a pos w:Nat} (h:a≤pos):(L.drop a).take (pos-a)++(L.drop pos).take w=(L.drop a).take (pos+w-a):=by
  have e:pos+w-a=(pos-a)+w:=by omega
  rw [e,List.take_add,List.drop_drop,show a+(pos-a)=pos by omega]
theorem spans_words (s:ByteArray):∀ (f pos:Nat) (acc:List (Nat × Nat)),s.size-pos≤f →
    ((closeSpans s (spansFromP (fun n=>n == 32) s f pos none acc)).map (piece s.data.toList)=acc.map (piece s.data.toList)++wordsGo [] (s.data.toList.drop pos)) ∧
    ∀ a,a<pos→pos≤s.size→(closeSpans s (spansFromP (fun n=>n == 32) s f pos (some a) acc)).map (piece s.data.toList)=acc.map (piece s.data.toList)++wordsGo ((s.data.toList.drop a).take (pos-a)) (s.data.toList.drop pos):=by
  intro f
  have done:∀ (pos:Nat) (acc:List (Nat × Nat)),s.size≤pos→((closeSpans s (acc,none)).map (piece s.data.toList)=acc.map (piece s.data.toList)++wordsGo [] (s.data.toList.drop pos)) ∧
      ∀ a,a<pos→pos≤s.size→(closeSpans s (acc,some a)).map (piece s.data.toList)=acc.map (piece s.data.toList)++wordsGo ((s.data.toList.drop a).take (pos-a)) (s.data.toList.drop pos):=by
    intro pos acc hp
    rw [size_len] at hp
    rw [List.drop_of_length_le hp]
    refine ⟨by simp [closeSpans,wordsGo],fun a ha hps=>?_⟩
    have hps':pos=s.size:=by rw [size_len] at *;omega
    have hne:(s.data.toList.drop a).take (pos-a)≠[]:=by
      intro e
      have:=congrArg List.length e
      rw [List.length_take,List.length_drop,← size_len] at this
      simp at this;omega
    rw [wordsGo,if_neg hne]
    simp [closeSpans,piece,hps']
  induction f with
  | zero =>
    intro pos acc h
    exact done pos acc (by omega)
  | succ f ih =>
    intro pos acc h
    unfold spansFromP
    by_cases hp:pos<s.size
    · simp only [if_pos hp]
      have hd:=decode_blank s pos hp
      by_cases h32:s.data.toList.getD pos 0=32
      · have e:=hd.1 h32
        have hr:((Utf8.decode s pos).1 == 32)=true:=by rw [e];rfl
        simp only [if_pos hr]
        rw [e]
        have hdrop:=drop_at (L:=s.data.toList) (k:=pos) hp
        refine ⟨?_,fun a ha _=>?_⟩
        · show (closeSpans s (spansFromP _ s f (pos+1) none acc)).map _=_
          rw [(ih (pos+1) acc (by omega)).1,hdrop,wordsGo,if_pos h32,if_pos rfl]
        · show (closeSpans s (spansFromP _ s f (pos+1) none (acc++[(a,pos)]))).map _=_
          have hne:(s.data.toList.drop a).take (pos-a)≠[]:=by
            intro e
            have:=congrArg List.length e
            rw [List.length_take,List.length_drop,← size_len] at this
            simp at this;omega
          rw [(ih (pos+1) (acc++[(a,pos)]) (by omega)).1,hdrop,wordsGo,if_pos h32,if_neg hne,List.map_append,List.append_assoc];rfl
      · obtain ⟨e1,e2,e3,e4⟩:=hd.2 h32
        have hr:¬ ((Utf8.decode s pos).1 == 32)=true:=by simpa using e1
        simp only [if_neg hr]
        have ih2:=(ih (pos+(Utf8.decode s pos).2) acc (by omega)).2
        refine ⟨?_,fun a ha _=>?_⟩
        · show (closeSpans s (spansFromP _ s f (pos+(Utf8.decode s pos).2) (some pos) acc)).map _=_
          rw [ih2 pos (by omega) e3,step_run [] e3 e4,List.nil_append,Nat.add_sub_cancel_left]
        · show (closeSpans s (spansFromP _ s f (pos+(Utf8.decode s pos).2) (some a) acc)).map _=_
          rw [ih2 a (by omega) e3,step_run _ e3 e4,grow (by omega)]
    · simp only [if_neg hp]
      exact done pos acc (by omega)
theorem fields_words (s:ByteArray):(goFieldsP (fun n=>n == 32) s).map (·.data.toList)=words s.data.toList:=by
  unfold goFieldsP spansOfP
  rw [List.map_map]
  have h:=(spans_words s s.size 0 [] (by omega)).1
  rw [List.map_nil,List.nil_append,List.drop_zero] at h
  unfold words
  rw [← h]
  exact List.map_congr_left fun x _=>extract_piece s x
def splitGo (b:UInt8):Bs→Bs→List Bs
  | cur,[]=>[cur]
  | cur,c::r=>if c=b then cur::splitGo b [] r else splitGo b (cur++[c]) r
def splitC (b:UInt8) (s:Bs):List Bs:=splitGo b [] s
theorem splitGo_pre (b:UInt8):∀ (s cur:Bs),splitGo b cur s=(match splitGo b [] s with | []=>[] | x::r=>(cur++x)::r)
  | [],cur=>by simp [splitGo]
  | c::r,cur=>by
    rw [splitGo,splitGo]
    split
    · simp
    · rw [splitGo_pre b r (cur++[c]),splitGo_pre b r ([]++[c])]
      cases splitGo b [] r <;> simp
theorem splitGo_ne (b:UInt8):∀ (s cur:Bs),splitGo b cur s≠[]
  | [],cur=>by simp [splitGo]
  | c::r,cur=>by
    rw [splitGo];split
    · exact List.cons_ne_nil _ _
    · exact splitGo_ne b r _
theorem splitK_go (b:UInt8):∀ (s:Bs) (k:Nat),s.count b≤k→splitK [b] 0 k s=splitC b s
  | [],0,_=>rfl
  | [],k+1,_=>rfl
  | c::r,k,hk=>by
    have hi:index (c::r) [b]=if c=b then 0 else if index r [b] == -1 then -1 else index r [b]+1:=by
      rw [index]
      by_cases h:c=b
      · subst h;rw [if_pos rfl,if_pos (by simp [List.isPrefixOf])]
      · rw [if_neg h,if_neg (by simp [List.isPrefixOf];exact fun e=>h e.symm)]
    by_cases h:c=b
    · subst h
      rw [List.count_cons_self] at hk
      obtain ⟨k,rfl⟩:∃ j,k=j+1:=⟨k-1,by omega⟩
      rw [splitK,hi,if_pos rfl]
      show []::splitK [c] 0 k r=_
      rw [splitK_go c r k (by omega)]
      unfold splitC
      rw [splitGo,if_pos rfl]
    · rw [List.count_cons_of_ne (by simpa using h)] at hk
      unfold splitC
      rw [splitGo,if_neg h,splitGo_pre]
      have ih:=splitK_go b r k hk
      unfold splitC at ih
      rw [← ih]
      cases k with
      | zero=>rfl
      | succ k =>
        rw [splitK,splitK,hi,if_neg h]
        by_cases hm:index r [b] = -1
        · simp [hm]
        · have h0:=index_ge r [b]
          have e1:(index r [b] == -1)=false:=by simpa using hm
          have e2:(index r [b]+1 == -1)=false:=by simp;omega
          have e3:(index r [b]+1).toNat=(index r [b]).toNat+1:=by omega
          rw [e1]
          simp only [Bool.false_eq_true,if_false,e2,e3]
          simp
theorem split_lib (s:ByteArray) (b:UInt8):(splitB ⟨#[b]⟩ 0 (countB s ⟨#[b]⟩) s).map (·.data.toList)=splitC b s.data.toList:=by
  rw [splitB_data]
  refine splitK_go b _ _ ?_
  have:countB s ⟨#[b]⟩=count s.data.toList [b]:=rfl
  rw [this,count_one];exact Nat.le_refl _
end R44
end Go.Proofs.YtggobegaiijhhaaGreatDoor
namespace Go.Proofs.YtggobegaiijhhaaGreatDoor
open Go.GV
namespace R44
theorem dec_lenI (n:Int) (h:n≤9223372036854775807):(Lib.decDigits n.toNat).length≤19:=dec_len19 (by omega)
theorem wordsGo_len:∀ (l cur:Bytes),∀ x∈wordsGo cur l,x.length≤cur.length+l.length
  | [],cur,x,hx=>by
    rw [wordsGo] at hx;split at hx
    · cases hx
    · rw [List.mem_singleton.1 hx];simp
  | c::r,cur,x,hx=>by
    rw [wordsGo] at hx;rw [List.length_cons]
    split at hx
    · split at hx
      · have:=wordsGo_len r [] x hx;simp at this;omega
      · rcases List.mem_cons.1 hx with rfl | hx
        · omega
        · have:=wordsGo_len r [] x hx;simp at this;omega
    · have:=wordsGo_len r _ x hx;simp at this;omega
theorem words_len (s:Bytes) (i:Nat):((words s).getD i []).length≤s.length:=by
  by_cases h:i<(words s).length
  · have:=wordsGo_len s [] _ (getD_mem (d:=[]) h);rw [List.length_nil,Nat.zero_add] at this;exact this
  · rw [List.getD_eq_getElem?_getD,List.getElem?_eq_none (by omega)];exact Nat.zero_le _
theorem wordsGo_count:∀ (l cur:Bytes),(wordsGo cur l).length≤l.length+1
  | [],cur=>by rw [wordsGo];split <;> simp
  | c::r,cur=>by
    rw [wordsGo,List.length_cons]
    split
    · split
      · have:=wordsGo_count r [];omega
      · rw [List.length_cons];have:=wordsGo_count r [];omega
    · have:=wordsGo_count r (cur++[c]);omega
theorem words_count (s:Bytes):(words s).length≤s.length+1:=wordsGo_count s []
theorem rw_bd {W:List Bytes} {s:Bytes} (h:W=words s):W.length≤s.length+1∧(W.getD 0 []).length≤s.length∧(W.getD 1 []).length≤s.length∧((W.drop 2).getD 0 []).length≤s.length∧(((W.drop 2).drop 1).getD 0 []).length≤s.length:=by
  subst h
  have e:∀ k,((words s).drop k).getD 0 []=(words s).getD k []:=fun k=>by rw [List.getD_eq_getElem?_getD,List.getElem?_drop,List.getD_eq_getElem?_getD];rfl
  rw [List.drop_drop,e,e]
  exact ⟨words_count s,words_len s 0,words_len s 1,words_len s 2,words_len s (2+1)⟩
theorem splitGo_len (b:UInt8):∀ (l cur:Bytes),∀ x∈splitGo b cur l,x.length≤cur.length+l.length
  | [],cur,x,hx=>by rw [splitGo] at hx;rw [List.mem_singleton.1 hx];simp
  | c::r,cur,x,hx=>by
    rw [splitGo] at hx;rw [List.length_cons]
    split at hx
    · rcases List.mem_cons.1 hx with rfl | hx
      · omega
      · have:=splitGo_len b r [] x hx;simp at this;omega
    · have:=splitGo_len b r _ x hx;simp at this;omega
theorem splitC_len (b:UInt8) (s:Bytes) (i:Nat):((splitC b s).getD i []).length≤s.length:=by
  by_cases h:i<(splitC b s).length
  · have:=splitGo_len b s [] _ (getD_mem (d:=[]) h);rw [List.length_nil,Nat.zero_add] at this;exact this
  · rw [List.getD_eq_getElem?_getD,List.getElem?_eq_none (by omega)];exact Nat.zero_le _
theorem splitGo_count (b:UInt8):∀ (l cur:Bytes),(splitGo b cur l).length≤l.length+1
  | [],cur=>by rw [splitGo];simp
  | c::r,cur=>by
    rw [splitGo,List.length_cons]
    split
    · rw [List.length_cons];have:=splitGo_count b r [];omega
    · have:=splitGo_count b r (cur++[c]);omega
theorem splitC_count (b:UInt8) (s:Bytes):(splitC b s).length≤s.length+1:=splitGo_count b s []
def SplJ (b:UInt8) (s:Bytes) (k:Nat) (out:List Bytes):Prop:=∃ pre cur,out=pre++[cur]∧splitC b s=pre++splitGo b cur (s.drop k)
section
variable {b:UInt8} {s:Bytes} {k:Nat} {out:List Bytes}
theorem SplJ.start:SplJ b s 0 [[]]:=⟨[],[],rfl,rfl⟩
theorem SplJ.ne (h:SplJ b s k out):0<out.length:=by obtain ⟨pre,cur,rfl,_⟩:=h;simp
theorem SplJ.cut (h:SplJ b s k out) (hk:k<s.length) (hb:s.getD k 0=b):SplJ b s (k+1) (out++[[]]):=by
  obtain ⟨pre,cur,rfl,h2⟩:=h
  refine ⟨pre++[cur],[],rfl,?_⟩
  rw [h2,drop_cons (d:=0) hk,splitGo,if_pos hb];simp
theorem SplJ.add (h:SplJ b s k out) (hk:k<s.length) (hb:¬ s.getD k 0=b):SplJ b s (k+1) (out.set (out.length-1) (out.getD (out.length-1) []++sub s k (k+1))):=by
  obtain ⟨pre,cur,rfl,h2⟩:=h
  refine ⟨pre,cur++[s.getD k 0],?_,?_⟩
  · rw [List.length_append,List.length_singleton,Nat.add_sub_cancel,List.set_append_right _ _ (Nat.le_refl _),Nat.sub_self,List.getD_eq_getElem?_getD,List.getElem?_append_right (Nat.le_refl _),Nat.sub_self,sub_snoc (Nat.le_refl k) hk,sub_none];rfl
  · rw [h2,drop_cons (d:=0) hk,splitGo,if_neg hb]
theorem SplJ.done (h:SplJ b s k out) (hk:s.length≤k):out=splitC b s:=by
  obtain ⟨pre,cur,rfl,h2⟩:=h
  rw [h2,List.drop_of_length_le hk];rfl
theorem SplJ.short (h:SplJ b s k out) (i:Nat):(out.getD i []).length≤s.length:=by
  obtain ⟨pre,cur,rfl,h2⟩:=h
  have key:∀ x∈pre++[cur],x.length≤s.length:=by
    intro x hx
    rcases List.mem_append.1 hx with hx | hx
    · have:=splitGo_len b s [] x (by show x∈splitC b s;rw [h2];exact List.mem_append_left _ hx)
      simpa using this
    · rw [List.mem_singleton.1 hx]
      have h3:(splitGo b cur (s.drop k)).getD 0 []∈splitC b s:=by
        rw [h2]
        exact List.mem_append_right _ (getD_mem (List.length_pos_iff.2 (splitGo_ne b _ _)))
      have h4:=splitGo_len b s [] _ h3
      have h5:cur.length≤((splitGo b cur (s.drop k)).getD 0 []).length:=by
        rw [splitGo_pre]
        cases hs:splitGo b [] (s.drop k) with
        | nil=>exact absurd hs (splitGo_ne b _ _)
        | cons y r=>simp
      rw [List.length_nil,Nat.zero_add] at h4;omega
  by_cases hi:i<(pre++[cur]).length
  · exact key _ (getD_mem hi)
  · rw [List.getD_eq_getElem?_getD,List.getElem?_eq_none (by omega)];exact Nat.zero_le _
theorem SplJ.few (h:SplJ b s k out):out.length≤s.length+1:=by
  obtain ⟨pre,cur,rfl,h2⟩:=h
  have:=splitC_count b s
  rw [h2,List.length_append] at this
  have:=List.length_pos_iff.2 (splitGo_ne b (s.drop k) cur)
  rw [List.length_append,List.length_singleton];omega
end
def ixFrom:List Bytes→Bytes→Nat→Int
  | [],_,_=>-1
  | x::r,v,k=>if x=v then (k:Int) else ixFrom r v (k+1)
def ixOf (xs:List Bytes) (v:Bytes):Int:=ixFrom xs v 0
theorem ix_go {xs:List Bytes} {v:Bytes} {k:Nat} (hk:k<xs.length) (h:ixFrom (xs.drop k) v k=ixOf xs v) (hn:¬ v=xs.getD k []):ixFrom (xs.drop (k+1)) v (k+1)=ixOf xs v:=by
  rw [← h,drop_cons (d:=[]) hk,ixFrom,if_neg (fun e=>hn e.symm)]
theorem ix_hit {xs:List Bytes} {v:Bytes} {k:Nat} (hk:k<xs.length) (h:ixFrom (xs.drop k) v k=ixOf xs v) (he:v=xs.getD k []):((k:Nat):Int)=ixOf xs v:=by
  rw [← h,drop_cons (d:=[]) hk,ixFrom,if_pos he.symm]
theorem ix_end {xs:List Bytes} {v:Bytes} {k:Nat} (hk:xs.length≤k) (h:ixFrom (xs.drop k) v k=ixOf xs v) : -1=ixOf xs v:=by
  rw [← h,List.drop_of_length_le hk];rfl
theorem ixFrom_bd:∀ (xs:List Bytes) (v:Bytes) (k:Nat),ixFrom xs v k = -1∨((k:Int)≤ixFrom xs v k∧ixFrom xs v k<(k:Int)+xs.length)
  | [],_,_=>.inl rfl
  | x::r,v,k=>by
    rw [ixFrom];split
    · right;rw [List.length_cons];omega
    · rcases ixFrom_bd r v (k+1) with h | h
      · exact .inl h
      · right;rw [List.length_cons];omega
theorem ixOf_bd (xs:List Bytes) (v:Bytes) : -1≤ixOf xs v∧ixOf xs v<xs.length:=by
  have h:=ixFrom_bd xs v 0
  unfold ixOf;omega
abbrev KS:List Bytes:=[[116,101,120,116],[110,117,109,98,101,114],[98,105,110,97,114,121]]
abbrev DS:Bytes:=[100,101,115,99,101,110,100,105,110,103]
def kindOf (R:List Bytes):Int × List Bytes:=if (decide ((0:Int)<((R.length:Nat):Int))&&decide (0≤ixOf KS (R.getD 0 [])))=true then (([0,1,2]:List Int).getD (ixOf KS (R.getD 0 [])).toNat 0,R.drop 1) else (0,R)
def descOf (R:List Bytes):Bool × List Bytes:=if (decide ((0:Int)<((R.length:Nat):Int))&&decide (R.getD 0 []=DS))=true then (true,R.drop 1) else (false,R)
def fieldW (W:List Bytes):Option SortField:=
  if 2≤W.length then
    (match numV (W.getD 0 []),numV (W.getD 1 []) with
     | some a,some n=>if (descOf (kindOf (W.drop 2)).2).2=[] then some ⟨(a:Int),(n:Int),(kindOf (W.drop 2)).1,(descOf (kindOf (W.drop 2)).2).1⟩ else none
     | _,_=>none)
  else none
def fieldsW:List Bytes→Option (List SortField)
  | []=>some []
  | p::r=>match fieldW (words p) with
    | none=>none
    | some f=>(fieldsW r).map fun l=>f::l
def parseV (s:Bytes):List SortField × Int:=if words s=[] then ([],0) else match fieldsW (splitC 44 s) with
  | none=>([],3)
  | some l=>if valid l=true then (l,0) else ([],1)
def FldJ (ps:List Bytes) (k:Nat) (out:List SortField):Prop:=fieldsW ps=(fieldsW (ps.drop k)).map fun l=>out++l
section
variable {ps:List Bytes} {k:Nat} {out:List SortField} {s:Bytes}
theorem FldJ.start:FldJ ps 0 []:=by
  show fieldsW ps=(fieldsW ps).map fun l=>[]++l
  cases fieldsW ps <;> rfl
theorem FldJ.add (h:FldJ ps k out) (hk:k<ps.length) {f:SortField} (hf:fieldW (words (ps.getD k []))=some f):FldJ ps (k+1) (out++[f]):=by
  unfold FldJ at *
  rw [h,drop_cons (d:=[]) hk,fieldsW,hf]
  cases fieldsW (ps.drop (k+1)) <;> simp
theorem FldJ.bad (h:FldJ (splitC 44 s) k out) (hs:words s≠[]) (hk:k<(splitC 44 s).length) (hf:fieldW (words ((splitC 44 s).getD k []))=none):(([]:List SortField),(3:Int))=parseV s:=by
  unfold FldJ at h
  rw [drop_cons (d:=[]) hk,fieldsW,hf] at h
  unfold parseV;rw [if_neg hs,h];rfl
theorem FldJ.done (h:FldJ (splitC 44 s) k out) (hs:words s≠[]) (hk:(splitC 44 s).length≤k):parseV s=if valid out=true then (out,0) else ([],1):=by
  unfold FldJ at h
  rw [List.drop_of_length_le hk] at h
  unfold parseV;rw [if_neg hs,h]
  simp [fieldsW]
theorem FldJ.yes (h:FldJ (splitC 44 s) k out) (hs:words s≠[]) (hk:(splitC 44 s).length≤k) (hv:valid out=true):(out,(0:Int))=parseV s:=by rw [h.done hs hk,if_pos hv]
theorem FldJ.no (h:FldJ (splitC 44 s) k out) (hs:words s≠[]) (hk:(splitC 44 s).length≤k) (hv:valid out=false):(([]:List SortField),(1:Int))=parseV s:=by rw [h.done hs hk,if_neg (by rw [hv];decide)]
theorem parse_none (hs:words s=[]):(([]:List SortField),(0:Int))=parseV s:=by unfold parseV;rw [if_pos hs]
variable {W:List Bytes} {n1 n2:Int} {o1 o2:Bool}
theorem fw_short (h:¬ 2≤W.length):fieldW W=none:=by unfold fieldW;rw [if_neg h]
theorem fw_n1 (h:o1=false) (s1:SmallJ (W.getD 0 []) n1 o1):fieldW W=none:=by
  unfold fieldW;split
  · rw [s1.2 h]
  · rfl
theorem fw_n2 (h:o2=false) (s2:SmallJ (W.getD 1 []) n2 o2):fieldW W=none:=by
  unfold fieldW;split
  · rw [s2.2 h];cases numV (W.getD 0 []) <;> rfl
  · rfl
theorem fw_rest {kd:Int} {de:Bool} {R1 R2:List Bytes} (hk:kindOf (W.drop 2)=(kd,R1)) (hd:descOf R1=(de,R2)) (he:R2≠[]):fieldW W=none:=by
  unfold fieldW;split
  · rw [hk];simp only;rw [hd];simp only
    cases numV (W.getD 0 []) <;> cases numV (W.getD 1 []) <;> simp only
    rw [if_neg he]
  · rfl
theorem fw_yes {kd:Int} {de:Bool} {R1 R2:List Bytes} (h:2≤W.length) (h1:o1=true) (s1:SmallJ (W.getD 0 []) n1 o1) (h2:o2=true) (s2:SmallJ (W.getD 1 []) n2 o2) (hk:kindOf (W.drop 2)=(kd,R1)) (hd:descOf R1=(de,R2)) (he:R2=[]):fieldW W=some ⟨n1,n2,kd,de⟩:=by
  obtain ⟨e1,p1,_⟩:=s1.1 h1
  obtain ⟨e2,p2,_⟩:=s2.1 h2
  unfold fieldW
  rw [if_pos h,e1,e2,hk];simp only
  rw [hd];simp only
  rw [if_pos he,Int.toNat_of_nonneg p1,Int.toNat_of_nonneg p2]
variable {R:List Bytes}
theorem kind_t (h:(decide ((0:Int)<((R.length:Nat):Int))&&decide (0≤ixOf KS (R.getD 0 [])))=true):kindOf R=(([0,1,2]:List Int).getD (ixOf KS (R.getD 0 [])).toNat 0,R.drop 1):=if_pos h
theorem kind_f (h:(decide ((0:Int)<((R.length:Nat):Int))&&decide (0≤ixOf KS (R.getD 0 [])))=false):kindOf R=(0,R):=if_neg (by rw [h];decide)
theorem desc_t (h:(decide ((0:Int)<((R.length:Nat):Int))&&decide (R.getD 0 []=DS))=true):descOf R=(true,R.drop 1):=if_pos h
theorem desc_f (h:(decide ((0:Int)<((R.length:Nat):Int))&&decide (R.getD 0 []=DS))=false):descOf R=(false,R):=if_neg (by rw [h];decide)
end
end R44
end Go.Proofs.YtggobegaiijhhaaGreatDoor
namespace Go.Proofs.YtggobegaiijhhaaGreatDoor
open Go.GV
namespace R44
def kindT (k:Int):Bytes:=if k=1 then [32,110,117,109,98,101,114] else if k=2 then [32,98,105,110,97,114,121] else []
abbrev desT:Bytes:=[32,100,101,115,99,101,110,100,105,110,103]
def fmt1 (f:SortField):Bytes:=(((Lib.decDigits f.At.toNat++[32])++Lib.decDigits f.Length.toNat)++kindT f.Kind)++(if f.Descending=true then desT else [])
def fmtV (l:List SortField):Bytes:=if valid l=true then Lib.join (l.map fmt1) [44,32] else []
section
variable {l:List SortField} {k:Nat} {s x:Bytes}
end
section
variable {R:List Bytes}
end
theorem fw_of {W:List Bytes} {p:Bytes} {x:Option SortField} (hw:W=words p) (h:fieldW W=x):fieldW (words p)=x:=by rw [← hw];exact h
theorem ne_of {W:List Bytes} {s:Bytes} (hw:W=words s) (h:W.length≠0):words s≠[]:=fun e=>by rw [hw,e] at h;exact h rfl
theorem eq_of {W:List Bytes} {s:Bytes} (hw:W=words s) (h:W.length=0):words s=[]:=by rw [← hw];exact List.length_eq_zero_iff.1 h
section
variable {W R1 R2:List Bytes} {n1 n2 kd:Int} {o1 o2 de:Bool}
theorem fw_go (h:2≤W.length) (s1:SmallJ (W.getD 0 []) n1 o1) (h1:o1=true) (s2:SmallJ (W.getD 1 []) n2 o2) (h2:o2=true) (hk:kindOf (W.drop 2)=(kd,R1)) (hd:descOf R1=(de,R2)) (he:R2.length=0):fieldW W=some ⟨n1,n2,kd,de⟩:=fw_yes h h1 s1 h2 s2 hk hd (List.length_eq_zero_iff.1 he)
theorem fw_no2 (s1:SmallJ (W.getD 0 []) n1 o1) (s2:SmallJ (W.getD 1 []) n2 o2) (h:((!o1)||(!o2))=true):fieldW W=none:=by
  cases h1:o1 with
  | false=>exact fw_n1 h1 s1
  | true=>cases h2:o2 with
    | false=>exact fw_n2 h2 s2
    | true=>rw [h1,h2] at h;cases h
theorem fw_no3 (s1:SmallJ (W.getD 0 []) n1 o1) (s2:SmallJ (W.getD 1 []) n2 o2) (hk:kindOf (W.drop 2)=(kd,R1)) (hd:descOf R1=(de,R2)) (h:(((!o1)||(!o2))||decide ((0:Int)<((R2.length:Nat):Int)))=true):fieldW W=none:=by
  rcases Bool.or_eq_true_iff.1 h with h | h
  · exact fw_no2 s1 s2 h
  · exact fw_rest hk hd fun e=>by rw [e] at h;simp at h
end
end R44
end Go.Proofs.YtggobegaiijhhaaGreatDoor
namespace Go.Proofs.YtggobegaiijhhaaGreatDoor
open Go.GV
namespace R44
abbrev ONE:List SortField:=[SortField.mk 0 1 0 false]
abbrev TWO:List SortField:=[SortField.mk 0 1 0 true]
theorem aw_cmp:cmpV ONE [97] [98] = -1:=by decide
end R44
end Go.Proofs.YtggobegaiijhhaaGreatDoor
namespace Go.GV
open Go.Lib
end Go.GV
namespace Go.Proofs.YtggobegaiijhhaaGreatDoor
open Go.GV
namespace R44
theorem fields_cnt:∀ {ps:List Bytes} {r:List SortField},fieldsW ps=some r→r.length=ps.length
  | [],r,h=>by cases h;rfl
  | p::t,r,h=>by
    rw [fieldsW] at h
    cases hf:fieldW (words p) with
    | none=>rw [hf] at h;cases h
    | some f =>
      rw [hf] at h
      cases ht:fieldsW t with
      | none=>rw [ht] at h;cases h
      | some q=>rw [ht] at h;cases h;simp only [List.length_cons,fields_cnt ht]
theorem parse_cnt (s:Bytes):(parseV s).1.length≤s.length+1:=by
  unfold parseV
  split
  · exact Nat.zero_le _
  · cases hf:fieldsW (splitC 44 s) with
    | none=>exact Nat.zero_le _
    | some r =>
      have h1:=fields_cnt hf
      have h2:=splitC_count 44 s
      show (if valid r=true then (r,(0:Int)) else ([],1)).1.length≤_
      split
      · show r.length≤_;omega
      · exact Nat.zero_le _
end R44
end Go.Proofs.YtggobegaiijhhaaGreatDoor
namespace Go.Proofs.YtggobegaiijhhaaGreatDoor
open Go.GV
namespace R45
theorem ln_one {ln:List Bytes} {s:Bytes} (h:ln=[s]):ln.length=1:=by rw [h];rfl
theorem NumJ.rg {s:Bytes} {most n:Int} {ok:Bool} (h:NumJ s most n ok) (hk:ok=true):0≤n∧n≤most:=h.bd.1 hk
def MrP (parm:Bytes) (l:List SortField) (ok:Bool):Prop:=(ok=true→R44.parseV parm=(l,0))∧(ok=false→(R44.parseV parm).2≠0)∧l.length≤parm.length+1
theorem mrP {parm:Bytes} {l:List SortField} {e:Int} (h:(l,e)=R44.parseV parm):MrP parm l (decide (e=0)):=by
  refine ⟨fun hk=>?_,fun hk=>?_,?_⟩
  · rw [← h,of_decide_eq_true hk]
  · rw [← h];exact of_decide_eq_false hk
  · have:=R44.parse_cnt parm;rw [← h] at this;exact this
def parmS (s:Bytes):Option (List SortField × Int × Int):=match cutB 47 s with
  | none=>if (R44.parseV s).2=0 then some ((R44.parseV s).1,16,4) else none
  | some (a,b)=>match R44.words b with
    | [x,y]=>match numV x 1024,numV y 16 with
      | some m,some f=>if (R44.parseV a).2=0∧1≤m∧2≤f then some ((R44.parseV a).1,m,f) else none
      | _,_=>none
    | _=>none
def SrP (parm:Bytes) (l:List SortField) (m fan:Int) (ok:Bool):Prop:=(ok=true→parmS parm=some (l,m,fan))∧(ok=false→parmS parm=none)∧l.length≤parm.length+1
def Adj (fl:List SortField) (rs:List Bytes):Prop:=∀ j,j+1<rs.length→¬ R44.cmpV fl (rs.getD (j+1) []) (rs.getD j [])<0
def AdJ (fl:List SortField) (rs:List Bytes) (i:Int):Prop:=∀ j:Nat,i≤j→j+1<rs.length→¬ R44.cmpV fl (rs.getD (j+1) []) (rs.getD j [])<0
theorem adj_t {fl:List SortField} {rs:List Bytes} {z:Bool} (h:(z=true→Adj fl rs)∧(z=false→¬ Adj fl rs)) (hz:z=true):Adj fl rs:=h.1 hz
theorem AdJ.start {fl:List SortField} {rs:List Bytes} : AdJ fl rs ((rs.length:Int)-1):=fun j h1 h2=>by omega
theorem AdJ.step {fl:List SortField} {rs:List Bytes} {i:Int} (h:AdJ fl rs i) (hi:0<i) (hc:¬ R44.cmpV fl (rs.getD i.toNat []) (rs.getD (i-1).toNat [])<0):AdJ fl rs (i-1):=fun j h1 h2=>by
  by_cases hj:i≤j
  · exact h j hj h2
  · have e1:i.toNat=j+1:=by omega
    have e2:(i-1).toNat=j:=by omega
    rw [e1,e2] at hc;exact hc
theorem AdJ.done {fl:List SortField} {rs:List Bytes} {i:Int} (h:AdJ fl rs i) (hi:¬ 0<i):Adj fl rs:=fun j h2=>h j (by omega) h2
theorem AdJ.bad {fl:List SortField} {rs:List Bytes} {i:Int} (hi:0<i) (hl:i<rs.length) (hc:R44.cmpV fl (rs.getD i.toNat []) (rs.getD (i-1).toNat [])<0):¬ Adj fl rs:=fun h=>by
  have:=h (i-1).toNat (by omega)
  rw [show (i-1).toNat+1=i.toNat by omega] at this
  exact this hc
theorem srP_none {s a:Bytes} {l:List SortField} {e:Int} {o:Bool} (h2:o=false→cutB 47 s=none) (ho:o=false) (h3:o=false→a=s) (hp:(l,e)=R44.parseV a):SrP s l 16 4 (decide (e=0)):=by
  have ha:=h3 ho
  subst ha
  refine ⟨fun hk=>?_,fun hk=>?_,?_⟩
  · unfold parmS;rw [h2 ho];simp only [← hp];rw [if_pos (of_decide_eq_true hk)]
  · unfold parmS;rw [h2 ho];simp only [← hp];rw [if_neg (of_decide_eq_false hk)]
  · have:=R44.parse_cnt a;rw [← hp] at this;exact this
theorem srP_two {s a b:Bytes} {l:List SortField} {e m fan:Int} {o z1 z2:Bool} (h1:o=true→cutB 47 s=some (a,b)) (ho:o=true) (hl:a.length≤s.length) (hp:(l,e)=R44.parseV a) (hw:(R44.words b).length=2) (hm:NumJ ((R44.words b).getD 0 []) 1024 m z1) (hf:NumJ ((R44.words b).getD 1 []) 16 fan z2):SrP s l m fan ((((decide (e=0)&&z1)&&z2)&&decide (1≤m))&&decide (2≤fan)):=by
  obtain ⟨x,y,hxy⟩:∃ x y,R44.words b=[x,y]:=by
    match hq:R44.words b,hw with
    | [x,y],_=>exact ⟨x,y,rfl⟩
  rw [hxy] at hm hf
  have hm':NumJ x 1024 m z1:=hm
  have hf':NumJ y 16 fan z2:=hf
  have hpe:(R44.parseV a).1=l∧(R44.parseV a).2=e:=by rw [← hp];exact ⟨rfl,rfl⟩
  refine ⟨fun hk=>?_,fun hk=>?_,?_⟩
  · simp only [Bool.and_eq_true,decide_eq_true_eq] at hk
    obtain ⟨⟨⟨⟨k1,k2⟩,k3⟩,k4⟩,k5⟩:=hk
    unfold parmS
    simp only [h1 ho,hxy,hm'.yes k2,hf'.yes k3,hpe.1,hpe.2]
    exact if_pos ⟨k1,k4,k5⟩
  · unfold parmS
    simp only [h1 ho,hxy]
    cases z1 with
    | false=>simp only [hm'.no rfl]
    | true =>
      cases z2 with
      | false=>simp only [hm'.yes rfl,hf'.no rfl]
      | true =>
        simp only [hm'.yes rfl,hf'.yes rfl,hpe.1,hpe.2]
        refine if_neg fun hc=>?_
        simp [hc.1,hc.2.1,hc.2.2] at hk
  · have:=R44.parse_cnt a;rw [hpe.1] at this;omega
theorem srP_bad {s a b:Bytes} {l:List SortField} {e m fan:Int} {o:Bool} (h1:o=true→cutB 47 s=some (a,b)) (ho:o=true) (hl:a.length≤s.length) (hp:(l,e)=R44.parseV a) (hw:(R44.words b).length≠2):SrP s l m fan false:=by
  refine ⟨fun hk=>(by cases hk),fun _=>?_,?_⟩
  · unfold parmS
    simp only [h1 ho]
    split
    · rename_i x y hxy;rw [hxy] at hw;exact absurd rfl hw
    · rfl
  · have:=R44.parse_cnt a;rw [← hp] at this;simp only at this;omega
end R45
end Go.Proofs.YtggobegaiijhhaaGreatDoor
namespace Go.Proofs.YtggobegaiijhhaaGreatDoor
open Go.GV
set_option linter.unusedVariables false
set_option linter.unusedSimpArgs false
end Go.Proofs.YtggobegaiijhhaaGreatDoor
namespace Go.Proofs
open Go.Shelf
open Go.RowKit Go.Lib
def Tryz.lays160_ren:Go.Shelf.Ren:=⟨fun | 160=>190 | 232=>202 | 231=>201 | 227=>203 | 234=>205 | 233=>204 | 236=>207 | 235=>206 | 228=>214 | 271=>216 | 151=>215 | 197=>187 | 120=>220 | 152=>219 | 260=>195 | 137=>221 | 119=>222 | 224=>77 | 225=>76 | 217=>75 | 266=>114 | n=>n,fun | 9=>9 | 4=>4 | 3=>3 | 5=>5 | 117=>268 | 116=>267 | 0=>0 | 124=>271 | 21=>21 | 105=>251 | 46=>122 | 119=>272 | 139=>275 | 138=>274 | n=>n,fun | 3=>6 | 4=>7 | n=>n⟩
theorem Tryz.lays160:Go.Proofs.Lays.n160 Tryz.prog Tryz.lays160_ren:={
  mixed:=by kernel_rfl
  f119:=Tryz.func222.trans (congrArg some (by kernel_rfl))
  f120:=Tryz.func220.trans (congrArg some (by kernel_rfl))
  f137:=Tryz.func221.trans (congrArg some (by kernel_rfl))
  f151:=Tryz.func215.trans (congrArg some (by kernel_rfl))
  f152:=Tryz.func219.trans (congrArg some (by kernel_rfl))
  f160:=Tryz.func190.trans (congrArg some (by kernel_rfl))
  f197:=Tryz.func187.trans (congrArg some (by kernel_rfl))
  f217:=Tryz.func75.trans (congrArg some (by kernel_rfl))
  f224:=Tryz.func77.trans (congrArg some (by kernel_rfl))
  f225:=Tryz.func76.trans (congrArg some (by kernel_rfl))
  f227:=Tryz.func203.trans (congrArg some (by kernel_rfl))
  f228:=Tryz.func214.trans (congrArg some (by kernel_rfl))
  f231:=Tryz.func201.trans (congrArg some (by kernel_rfl))
  f232:=Tryz.func202.trans (congrArg some (by kernel_rfl))
  f233:=Tryz.func204.trans (congrArg some (by kernel_rfl))
  f234:=Tryz.func205.trans (congrArg some (by kernel_rfl))
  f235:=Tryz.func206.trans (congrArg some (by kernel_rfl))
  f236:=Tryz.func207.trans (congrArg some (by kernel_rfl))
  f260:=Tryz.func195.trans (congrArg some (by kernel_rfl))
  f266:=Tryz.func114.trans (congrArg some (by kernel_rfl))
  f271:=Tryz.func216.trans (congrArg some (by kernel_rfl))
  t0:=Tryz.underlying0
  a0:=Tryz.isAgg0
  z0:=Tryz.sizeOf0
  v0:=Tryz.zeroValue0
  t3:=Tryz.underlying3
  a3:=Tryz.isAgg3
  z3:=Tryz.sizeOf3
  v3:=Tryz.zeroValue3
  t4:=Tryz.underlying4
  a4:=Tryz.isAgg4
  z4:=Tryz.sizeOf4
  v4:=Tryz.zeroValue4
  t5:=Tryz.underlying5
  a5:=Tryz.isAgg5
  z5:=Tryz.sizeOf5
  v5:=Tryz.zeroValue5
  t9:=Tryz.underlying9
  a9:=Tryz.isAgg9
  z9:=Tryz.sizeOf9
  v9:=Tryz.zeroValue9
  t21:=Tryz.underlying21
  a21:=Tryz.isAgg21
  z21:=Tryz.sizeOf21
  v21:=Tryz.zeroValue21
  t46:=Tryz.underlying122
  a46:=Tryz.isAgg122
  z46:=Tryz.sizeOf122
  v46:=Tryz.zeroValue122
  t105:=Tryz.underlying251
  a105:=Tryz.isAgg251
  z105:=Tryz.sizeOf251
  v105:=Tryz.zeroValue251
  t116:=Tryz.underlying267
  a116:=Tryz.isAgg267
  z116:=Tryz.sizeOf267
  t117:=Tryz.underlying268
  a117:=Tryz.isAgg268
  z117:=Tryz.sizeOf268
  v117:=Tryz.zeroValue268
  t119:=Tryz.underlying272
  a119:=Tryz.isAgg272
  z119:=Tryz.sizeOf272
  t124:=Tryz.underlying271
  a124:=Tryz.isAgg271
  z124:=Tryz.sizeOf271
  v124:=Tryz.zeroValue271
  t138:=Tryz.underlying274
  a138:=Tryz.isAgg274
  z138:=Tryz.sizeOf274
  v138:=Tryz.zeroValue274
  t139:=Tryz.underlying275
  a139:=Tryz.isAgg275
  z139:=Tryz.sizeOf275
  v139:=Tryz.zeroValue275
  g3:=by kernel_rfl
  g4:=by kernel_rfl }
theorem Tryz.strings_Trim_one (s:ByteArray) (c:UInt8) (hc:c.toNat<128) (w:World) (hs:s.size≤9223372036854775807) :
    Calls Tryz.prog 190 #[.string s,.string ⟨#[c]⟩] w fun e w'=>e = .returned (.string ⟨(Lib.trimB s.data.toList c).toArray⟩)∧(w'=w∨w'=w.drew):=Any.strings_Trim_one Tryz.lays160 s c hc w hs
def Tryz.lays106_ren:Go.Shelf.Ren:=⟨fun | 106=>181 | 213=>193 | 265=>209 | n=>n,fun | 9=>9 | 3=>3 | n=>n,fun | n=>n⟩
theorem Tryz.lays106:Go.Proofs.Lays.n106 Tryz.prog Tryz.lays106_ren:={
  mixed:=by kernel_rfl
  f106:=Tryz.func181.trans (congrArg some (by kernel_rfl))
  f213:=Tryz.func193.trans (congrArg some (by kernel_rfl))
  f265:=Tryz.func209.trans (congrArg some (by kernel_rfl))
  t3:=Tryz.underlying3
  a3:=Tryz.isAgg3
  z3:=Tryz.sizeOf3
  v3:=Tryz.zeroValue3
  t9:=Tryz.underlying9
  a9:=Tryz.isAgg9
  z9:=Tryz.sizeOf9
  v9:=Tryz.zeroValue9 }
theorem Tryz.strings_Compare (a b:ByteArray) (w:World) :
    Calls Tryz.prog 181 #[.string a,.string b] w fun e w'=>e = .returned (.int .i64 (Lib.compareBytes a.data.toList b.data.toList))∧w'=w:=Any.strings_Compare Tryz.lays106 a b w
def Tryz.lays103_ren:Go.Shelf.Ren:=⟨fun | 103=>191 | 210=>208 | 206=>140 | n=>n,fun | 9=>9 | 4=>4 | 24=>214 | 3=>3 | n=>n,fun | n=>n⟩
theorem Tryz.lays103:Go.Proofs.Lays.n103 Tryz.prog Tryz.lays103_ren:={
  mixed:=by kernel_rfl
  f103:=Tryz.func191.trans (congrArg some (by kernel_rfl))
  f206:=Tryz.func140.trans (congrArg some (by kernel_rfl))
  f210:=Tryz.func208.trans (congrArg some (by kernel_rfl))
  t3:=Tryz.underlying3
  a3:=Tryz.isAgg3
  z3:=Tryz.sizeOf3
  v3:=Tryz.zeroValue3
  t4:=Tryz.underlying4
  a4:=Tryz.isAgg4
  z4:=Tryz.sizeOf4
  v4:=Tryz.zeroValue4
  t9:=Tryz.underlying9
  a9:=Tryz.isAgg9
  z9:=Tryz.sizeOf9
  v9:=Tryz.zeroValue9
  t24:=Tryz.underlying214
  a24:=Tryz.isAgg214
  z24:=Tryz.sizeOf214
  v24:=Tryz.zeroValue214 }
theorem Tryz.strings_CutPrefix (s p:ByteArray) (w:World) :
    Calls Tryz.prog 191 #[.string s,.string p] w fun e w'=>e = .returned (.tuple #[.string ⟨(Lib.trimPrefix s.data.toList p.data.toList).toArray⟩,.bool (Lib.hasPrefix s.data.toList p.data.toList)])∧w'=w:=Any.strings_CutPrefix Tryz.lays103 s p w
def Tryz.lays146_ren:Go.Shelf.Ren:=⟨fun | 146=>133 | 221=>162 | 268=>175 | 138=>176 | 143=>29 | 195=>186 | 197=>187 | 218=>188 | 219=>39 | 260=>195 | 217=>75 | 225=>76 | 224=>77 | 267=>78 | 266=>114 | 314=>115 | n=>n,fun | 9=>9 | 31=>25 | 3=>3 | 4=>4 | 0=>0 | 105=>251 | 21=>21 | 5=>5 | 46=>122 | 119=>272 | 139=>275 | 138=>274 | 146=>161 | 51=>158 | n=>n,fun | 1=>0 | 3=>6 | 4=>7 | n=>n⟩
theorem Tryz.lays146:Go.Proofs.Lays.n146 Tryz.prog Tryz.lays146_ren:={
  mixed:=by kernel_rfl
  f138:=Tryz.func176.trans (congrArg some (by kernel_rfl))
  f143:=Tryz.func29.trans (congrArg some (by kernel_rfl))
  f146:=Tryz.func133.trans (congrArg some (by kernel_rfl))
  f195:=Tryz.func186.trans (congrArg some (by kernel_rfl))
  f197:=Tryz.func187.trans (congrArg some (by kernel_rfl))
  f217:=Tryz.func75.trans (congrArg some (by kernel_rfl))
  f218:=Tryz.func188.trans (congrArg some (by kernel_rfl))
  f219:=Tryz.func39.trans (congrArg some (by kernel_rfl))
  f221:=Tryz.func162.trans (congrArg some (by kernel_rfl))
  f224:=Tryz.func77.trans (congrArg some (by kernel_rfl))
  f225:=Tryz.func76.trans (congrArg some (by kernel_rfl))
  f260:=Tryz.func195.trans (congrArg some (by kernel_rfl))
  f266:=Tryz.func114.trans (congrArg some (by kernel_rfl))
  f267:=Tryz.func78.trans (congrArg some (by kernel_rfl))
  f268:=Tryz.func175.trans (congrArg some (by kernel_rfl))
  f314:=Tryz.func115.trans (congrArg some (by kernel_rfl))
  t0:=Tryz.underlying0
  a0:=Tryz.isAgg0
  z0:=Tryz.sizeOf0
  v0:=Tryz.zeroValue0
  t3:=Tryz.underlying3
  a3:=Tryz.isAgg3
  z3:=Tryz.sizeOf3
  v3:=Tryz.zeroValue3
  t4:=Tryz.underlying4
  a4:=Tryz.isAgg4
  z4:=Tryz.sizeOf4
  v4:=Tryz.zeroValue4
  t5:=Tryz.underlying5
  a5:=Tryz.isAgg5
  z5:=Tryz.sizeOf5
  v5:=Tryz.zeroValue5
  t9:=Tryz.underlying9
  a9:=Tryz.isAgg9
  z9:=Tryz.sizeOf9
  v9:=Tryz.zeroValue9
  t21:=Tryz.underlying21
  a21:=Tryz.isAgg21
  z21:=Tryz.sizeOf21
  v21:=Tryz.zeroValue21
  t31:=Tryz.underlying25
  a31:=Tryz.isAgg25
  z31:=Tryz.sizeOf25
  v31:=Tryz.zeroValue25
  t46:=Tryz.underlying122
  a46:=Tryz.isAgg122
  z46:=Tryz.sizeOf122
  v46:=Tryz.zeroValue122
  t51:=Tryz.underlying158
  a51:=Tryz.isAgg158
  z51:=Tryz.sizeOf158
  v51:=Tryz.zeroValue158
  t105:=Tryz.underlying251
  a105:=Tryz.isAgg251
  z105:=Tryz.sizeOf251
  v105:=Tryz.zeroValue251
  t119:=Tryz.underlying272
  a119:=Tryz.isAgg272
  z119:=Tryz.sizeOf272
  t138:=Tryz.underlying274
  a138:=Tryz.isAgg274
  z138:=Tryz.sizeOf274
  v138:=Tryz.zeroValue274
  t139:=Tryz.underlying275
  a139:=Tryz.isAgg275
  z139:=Tryz.sizeOf275
  v139:=Tryz.zeroValue275
  t146:=Tryz.underlying161
  a146:=Tryz.isAgg161
  z146:=Tryz.sizeOf161
  v146:=Tryz.zeroValue161
  g1:=by kernel_rfl
  g3:=by kernel_rfl
  g4:=by kernel_rfl }
theorem Tryz.strings_Split (s sep:ByteArray) (m:Int) (w:World) (hs:s.size<4294967281) (hm:w.cell? ⟨0,0,none⟩=some (.int .i64 m)) (h1:1≤sep.size) :
    Calls Tryz.prog 133 #[.string s,.string sep] w fun e w' =>
      e = .returned (.slice (some ⟨w.heap.size,0,none⟩) (Lib.countB s sep+1) (Lib.countB s sep+1))∧w'=w.alloc (.cells ((Lib.splitB sep 0 (Lib.countB s sep) s).map Value.string).toArray 9):=Any.strings_Split Tryz.lays146 (by kernel_rfl) s sep m w hs hm h1
def Tryz.lays105_ren:Go.Shelf.Ren:=⟨fun | 105=>189 | 212=>196 | 99=>103 | 165=>197 | 166=>198 | 170=>199 | 169=>200 | 263=>210 | 264=>211 | 206=>140 | 240=>212 | 241=>213 | 276=>217 | 277=>218 | n=>n,fun | 9=>9 | 3=>3 | 4=>4 | 20=>20 | 0=>0 | 46=>122 | 109=>257 | 5=>5 | 72=>261 | 76=>128 | 51=>158 | 146=>161 | 53=>114 | 148=>277 | 70=>259 | 37=>117 | 75=>127 | 127=>246 | 164=>281 | 80=>264 | n=>n,fun | n=>n⟩
theorem Tryz.lays105:Go.Proofs.Lays.n105 Tryz.prog Tryz.lays105_ren:={
  mixed:=by kernel_rfl
  f99:=Tryz.func103.trans (congrArg some (by kernel_rfl))
  f105:=Tryz.func189.trans (congrArg some (by kernel_rfl))
  f165:=Tryz.func197.trans (congrArg some (by kernel_rfl))
  f166:=Tryz.func198.trans (congrArg some (by kernel_rfl))
  f169:=Tryz.func200.trans (congrArg some (by kernel_rfl))
  f170:=Tryz.func199.trans (congrArg some (by kernel_rfl))
  f206:=Tryz.func140.trans (congrArg some (by kernel_rfl))
  f212:=Tryz.func196.trans (congrArg some (by kernel_rfl))
  f240:=Tryz.func212.trans (congrArg some (by kernel_rfl))
  f241:=Tryz.func213.trans (congrArg some (by kernel_rfl))
  f263:=Tryz.func210.trans (congrArg some (by kernel_rfl))
  f264:=Tryz.func211.trans (congrArg some (by kernel_rfl))
  f276:=Tryz.func217.trans (congrArg some (by kernel_rfl))
  f277:=Tryz.func218.trans (congrArg some (by kernel_rfl))
  t0:=Tryz.underlying0
  a0:=Tryz.isAgg0
  z0:=Tryz.sizeOf0
  v0:=Tryz.zeroValue0
  t3:=Tryz.underlying3
  a3:=Tryz.isAgg3
  z3:=Tryz.sizeOf3
  v3:=Tryz.zeroValue3
  t4:=Tryz.underlying4
  a4:=Tryz.isAgg4
  z4:=Tryz.sizeOf4
  v4:=Tryz.zeroValue4
  t5:=Tryz.underlying5
  a5:=Tryz.isAgg5
  z5:=Tryz.sizeOf5
  v5:=Tryz.zeroValue5
  t9:=Tryz.underlying9
  a9:=Tryz.isAgg9
  z9:=Tryz.sizeOf9
  v9:=Tryz.zeroValue9
  t20:=Tryz.underlying20
  a20:=Tryz.isAgg20
  z20:=Tryz.sizeOf20
  v20:=Tryz.zeroValue20
  t37:=Tryz.underlying117
  a37:=Tryz.isAgg117
  z37:=Tryz.sizeOf117
  v37:=Tryz.zeroValue117
  t46:=Tryz.underlying122
  a46:=Tryz.isAgg122
  z46:=Tryz.sizeOf122
  v46:=Tryz.zeroValue122
  t51:=Tryz.underlying158
  a51:=Tryz.isAgg158
  z51:=Tryz.sizeOf158
  v51:=Tryz.zeroValue158
  t53:=Tryz.underlying114
  a53:=Tryz.isAgg114
  z53:=Tryz.sizeOf114
  v53:=Tryz.zeroValue114
  t70:=Tryz.underlying259
  a70:=Tryz.isAgg259
  z70:=Tryz.sizeOf259
  v70:=Tryz.zeroValue259
  t72:=Tryz.underlying261
  a72:=Tryz.isAgg261
  z72:=Tryz.sizeOf261
  v72:=Tryz.zeroValue261
  t75:=Tryz.underlying127
  a75:=Tryz.isAgg127
  z75:=Tryz.sizeOf127
  v75:=Tryz.zeroValue127
  t76:=Tryz.underlying128
  a76:=Tryz.isAgg128
  z76:=Tryz.sizeOf128
  v76:=Tryz.zeroValue128
  t109:=Tryz.underlying257
  a109:=Tryz.isAgg257
  z109:=Tryz.sizeOf257
  v109:=Tryz.zeroValue257
  t127:=Tryz.underlying246
  a127:=Tryz.isAgg246
  z127:=Tryz.sizeOf246
  v127:=Tryz.zeroValue246
  t146:=Tryz.underlying161
  a146:=Tryz.isAgg161
  z146:=Tryz.sizeOf161
  v146:=Tryz.zeroValue161
  t148:=Tryz.underlying277
  a148:=Tryz.isAgg277
  z148:=Tryz.sizeOf277
  v148:=Tryz.zeroValue277
  t164:=Tryz.underlying281
  a164:=Tryz.isAgg281
  z164:=Tryz.sizeOf281
  v164:=Tryz.zeroValue281 }
theorem Tryz.Builder_Extra_105:Builder.Extra Tryz.prog Tryz.lays105_ren:={
  sizeBuilder:=by kernel_rfl
  liesBuilder:=by kernel_rfl
  t5:=Tryz.underlying5
  a5:=Tryz.isAgg5
  z5:=Tryz.sizeOf5
  v5:=Tryz.zeroValue5
  infoByte:=by kernel_rfl
  cellsByte:=by kernel_rfl
  sizeByte:=by kernel_rfl
  neB5:=by decide }
theorem Tryz.strings_Repeat (s:ByteArray) (c:Nat) (w:World) (hc:c≤9223372036854775807) (hlen:s.size*c≤140737488355328) :
    Calls Tryz.prog 189 #[.string s,.int .i64 c] w fun e w'=>e = .returned (.string ⟨(Lib.repeatL s.data.toList c).toArray⟩)∧Below w.heap.size w w':=Any.strings_Repeat Tryz.lays105 Tryz.Builder_Extra_105 s c w hc hlen
def Tryz.lays229_ren:Go.Shelf.Ren:=⟨fun | 229=>105 | n=>n,fun | 9=>9 | 40=>147 | 31=>25 | 152=>184 | 3=>3 | 0=>0 | 4=>4 | 21=>21 | 154=>186 | n=>n,fun | n=>n⟩
theorem Tryz.lays229:Go.Proofs.Lays.n229 Tryz.prog Tryz.lays229_ren:={
  mixed:=by kernel_rfl
  f229:=Tryz.func105.trans (congrArg some (by kernel_rfl))
  t0:=Tryz.underlying0
  a0:=Tryz.isAgg0
  z0:=Tryz.sizeOf0
  v0:=Tryz.zeroValue0
  t3:=Tryz.underlying3
  a3:=Tryz.isAgg3
  z3:=Tryz.sizeOf3
  v3:=Tryz.zeroValue3
  t4:=Tryz.underlying4
  a4:=Tryz.isAgg4
  z4:=Tryz.sizeOf4
  v4:=Tryz.zeroValue4
  t9:=Tryz.underlying9
  a9:=Tryz.isAgg9
  z9:=Tryz.sizeOf9
  v9:=Tryz.zeroValue9
  t21:=Tryz.underlying21
  a21:=Tryz.isAgg21
  z21:=Tryz.sizeOf21
  v21:=Tryz.zeroValue21
  t31:=Tryz.underlying25
  a31:=Tryz.isAgg25
  z31:=Tryz.sizeOf25
  v31:=Tryz.zeroValue25
  t40:=Tryz.underlying147
  a40:=Tryz.isAgg147
  z40:=Tryz.sizeOf147
  v40:=Tryz.zeroValue147
  t152:=Tryz.underlying184
  a152:=Tryz.isAgg184
  z152:=Tryz.sizeOf184
  v152:=Tryz.zeroValue184
  t154:=Tryz.underlying186
  a154:=Tryz.isAgg186
  z154:=Tryz.sizeOf186
  v154:=Tryz.zeroValue186 }
theorem Tryz.strings_FieldsFunc_grows (g:Nat) (lb:Array Value) (eg:∀ args w,(callFunc g args).run Tryz.prog w = .ok (.enter g args) w) (p:Nat→Bool) (s:ByteArray) (w:World) (hs:s.size≤4294967296) (hp:PredGrows Tryz.prog g lb p w) :
    Calls Tryz.prog 105 #[.string s,.func (.func g) #[] lb] w fun e w'=>∃ A,e = .returned (.slice (some ⟨A,0,none⟩) (Lib.goFieldsP p s).length (Lib.goFieldsP p s).length)∧w.heap.size≤A ∧
      w'.ownsRow w.heap.size 9 1 (.slice (some ⟨A,0,none⟩) (Lib.goFieldsP p s).length (Lib.goFieldsP p s).length) (Lib.goFieldsP p s).length ((Lib.goFieldsP p s).map Value.string)∧Below w.heap.size w w':=Any.strings_FieldsFunc_grows Tryz.lays229 g lb eg p s w hs hp (by kernel_rfl) (by kernel_rfl)
end Go.Proofs
namespace Go.Proofs.YtggobegaiijhhaaGreatDoor
open Go.GV Go.RowKit Go.Op
theorem st_new {w w':World} {A n c:Nat} {e:TypeId} {sz:Nat} {cs:List Value} (hb:Below w.heap.size w w') (hA:w.heap.size≤A) (h:(Ent.row (.slice (some ⟨A,0,none⟩) n c) e sz n cs).at w'):St [] w w' [Ent.row (.slice (some ⟨A,0,none⟩) n c) e sz n cs]:=
  ⟨Fr.of_below hb,fun x hx=>by rw [List.mem_singleton.1 hx];exact h,List.pairwise_singleton _ _,fun x hx b hbb=>by rw [List.mem_singleton.1 hx] at hbb;cases hbb;exact .inr hA⟩
section
variable {P:Program} {E:Env} {w:World} {x y:Operand} {dst:Option Nat} {t t' ty:TypeId} {pos:String} {af:Array Edge} {g:Option (Nat × Bool)}
abbrev vR (n:Int):Value:=.int .i32 n
theorem x_eql_i32 {a b:Int} (hx:ev E x=vR a) (hy:ev E y=vR b):(execOp (ev E) ⟨dst,.binOp .eql t x y t',ty,pos,af,g⟩).run P w = .ok (.value (vB (decide (a=b)))) w:=by
  have h:decide (a=b)=(a == b):=by by_cases e:a=b <;> simp [e]
  rw [h];simp only [execOp,hx,hy];rfl
end
theorem split_ok (s:Bytes) (w:World) (hT:Tab [] w) (q0:s.length≤1000000):Calls Tryz.prog 133 #[vS s,vS [44]] w (Gives [] w fun v L=>∃ (A2:Option Addr) (c2:Nat),v=vL A2 (R44.splitC 44 s).length c2∧L=[Ent.row (.slice A2 (R44.splitC 44 s).length c2) 9 1 (R44.splitC 44 s).length ((R44.splitC 44 s).map vS)]):=by
  obtain ⟨m,hm⟩:=hT.mx
  refine (Tryz.strings_Split ⟨s.toArray⟩ ⟨#[44]⟩ m w (by show s.toArray.size<_;simp;omega) (cell_of hm) (by decide)).mono ?_
  rintro e w' ⟨rfl,rfl⟩
  have hl:=R44.split_lib ⟨s.toArray⟩ 44
  have hlen:=congrArg List.length hl
  rw [List.length_map,Lib.splitB_all _ (by decide) 0 _ _ rfl] at hlen
  have hsz:s.length=(⟨s.toArray⟩:ByteArray).size:=by show _=s.toArray.size;simp
  have hc:=Lib.countB_le ⟨#[44]⟩ (by decide) _ ⟨s.toArray⟩ (Nat.le_refl _)
  have hcells:(Lib.splitB ⟨#[44]⟩ 0 (Lib.countB ⟨s.toArray⟩ ⟨#[44]⟩) ⟨s.toArray⟩).map Value.string=(R44.splitC 44 s).map vS:=by
    rw [show R44.splitC 44 s=R44.splitC 44 (⟨s.toArray⟩:ByteArray).data.toList from rfl,← hl,List.map_map]
    exact List.map_congr_left fun x _=>rfl
  refine ⟨_,_,rfl,⟨some ⟨w.heap.size,0,none⟩,(R44.splitC 44 s).length,?_,rfl⟩,?_⟩
  · rw [hlen]
  · refine (St.nil (Fr.refl [] w)).alloc _ _ rfl ⟨by simp,.inr ⟨w.heap.size,(R44.splitC 44 s).length,((R44.splitC 44 s).map vS).toArray,rfl,?_,Nat.le_refl _,?_,by simp,?_⟩⟩
    · rw [hcells]
    · rw [← hlen];simp only [maxLen];omega
    · exact List.take_of_length_le (by simp)
theorem fields_ok (g:Nat) (hg:Callable Tryz.prog g) (hp:∀ (x:Nat) (w:World),Calls Tryz.prog g #[vR x] w (Gives [] w fun v L=>v=vB (decide ((x:Int)=32))∧L=[])) (s:Bytes) (w:World) (q0:s.length≤1000000):Calls Tryz.prog 105 #[vS s,Value.func (.func g) #[] #[]] w (Gives [] w fun v L=>∃ (A2:Option Addr) (c2:Nat),v=vL A2 (R44.words s).length c2∧L=[Ent.row (.slice A2 (R44.words s).length c2) 9 1 (R44.words s).length ((R44.words s).map vS)]):=by
  refine (Tryz.strings_FieldsFunc_grows g #[] (fun args w=>run_callFunc_enter hg) (fun n=>n == 32) ⟨s.toArray⟩ w (by show s.toArray.size≤_;simp;omega) (fun W x _ _=>?_)).mono ?_
  · refine (hp x W).mono ?_
    rintro e w' ⟨v,L,rfl,⟨rfl,rfl⟩,hS⟩
    refine ⟨?_,hS.fr.below⟩
    have:decide (((x:Nat):Int)=32)=(x == 32):=by
      by_cases h:x=32
      · subst h;rfl
      · rw [decide_eq_false (by omega)];exact (beq_eq_false_iff_ne.2 h).symm
    rw [this]
  · rintro e w' ⟨A,rfl,hA,hrow,hb⟩
    have hl:=R44.fields_words ⟨s.toArray⟩
    have hlen:=congrArg List.length hl
    rw [List.length_map] at hlen
    have hcells:(Lib.goFieldsP (fun n=>n == 32) ⟨s.toArray⟩).map Value.string=(R44.words s).map vS:=by
      rw [show R44.words s=R44.words (⟨s.toArray⟩:ByteArray).data.toList from rfl,← hl,List.map_map]
      exact List.map_congr_left fun x _=>rfl
    have hlen':(Lib.goFieldsP (fun n=>n == 32) ⟨s.toArray⟩).length=(R44.words s).length:=hlen
    rw [hcells,hlen'] at hrow
    refine ⟨_,_,rfl,⟨some ⟨A,0,none⟩,(R44.words s).length,?_,rfl⟩,st_new hb hA (owns_row hrow)⟩
    rw [hlen']
end Go.Proofs.YtggobegaiijhhaaGreatDoor
namespace Go.Proofs.YtggobegaiijhhaaGreatDoor
open Go.GV
set_option linter.unusedVariables false
set_option linter.unusedSimpArgs false
set_option maxRecDepth 20000 in
theorem f161_ok (x:Nat) (w:World):Calls Tryz.prog 161 #[vR ((x:Nat):Int)] w (Gives [] w fun v L=>v=vB (decide (((x:Nat):Int)=(32:Int)))∧L=[]):=by
 refine calls_J [] 5 Tryz.func161 rfl Tryz.ntmps161 [(0,_)] rfl rfl (Give.nil w) ?_
 refine q_ (g_ (s_ av_ (z_ (n_ (q_ (g_ (s_ mv_ (js_ (vB (decide (((x:Nat):Int)=(32:Int)))) (x_eql_i32 rfl rfl) (s_ av_ (z_ (n_ (rt_ ?_))))))))))))
 exact p1 Tryz.results161 rfl ⟨rfl,rfl⟩
end Go.Proofs.YtggobegaiijhhaaGreatDoor
namespace Go.Proofs.YtggobegaiijhhaaGreatDoor
open Go.GV
theorem fields1_ok (s:Bytes) (w:World) (q0:s.length≤1000000):Calls Tryz.prog 105 #[vS s,Value.func (.func 161) #[] #[]] w (Gives [] w fun v L=>∃ (A2:Option Addr) (c2:Nat),v=vL A2 (R44.words s).length c2∧L=[Ent.row (.slice A2 (R44.words s).length c2) 9 1 (R44.words s).length ((R44.words s).map vS)]):=
  fields_ok 161 Ty.ca161 (fun x w=>f161_ok x w) s w q0
end Go.Proofs.YtggobegaiijhhaaGreatDoor
namespace Go.Proofs.YtggobegaiijhhaaGreatDoor
open Go.GV
namespace Ty
end Ty
end Go.Proofs.YtggobegaiijhhaaGreatDoor
namespace Go.Proofs.YtggobegaiijhhaaGreatDoor
open Go.GV Go.RowKit
theorem repeat_ok {n:Nat} {s:Bytes} {c:Nat} {w:World}
    (h:Calls Tryz.prog n #[.string ⟨s.toArray⟩,.int .i64 c] w fun e w'=>e = .returned (.string ⟨(Lib.repeatL s c).toArray⟩)∧Below w.heap.size w w') :
    Calls Tryz.prog n #[vS s,vI c] w (Gives [] w fun v L=>v=vS (rep s c)∧L=[]):=by
  refine h.mono ?_
  rintro e w' ⟨rfl,hb⟩
  exact ⟨_,_,rfl,⟨by rw [rep_lib],rfl⟩,St.nil (Fr.of_below hb)⟩
theorem repeat_spec (s:Bytes) (c:Int) (w:World) (q0:0≤c) (q1:c≤1000) (q2:s.length≤1000):Calls Tryz.prog 189 #[vS s,vI c] w (Gives [] w fun v L=>v=vS (rep s c.toNat)∧L=[]):=by
  obtain ⟨n,rfl⟩:∃ n:Nat,c=n:=⟨c.toNat,by omega⟩
  refine repeat_ok (Tryz.strings_Repeat ⟨s.toArray⟩ n w (by omega) ?_)
  show s.length*n≤_
  exact Nat.le_trans (Nat.mul_le_mul q2 (show n≤1000 by omega)) (by decide)
end Go.Proofs.YtggobegaiijhhaaGreatDoor
