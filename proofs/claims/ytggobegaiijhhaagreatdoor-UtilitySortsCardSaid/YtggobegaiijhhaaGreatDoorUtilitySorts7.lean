/- GvQ, GvS, Nm44, Pl45c, Ad45, Tc45 in one text. -/
import Derived.Test.YtggobegaiijhhaaGreatDoorUtilitySorts5
import Derived.Test.YtggobegaiijhhaaGreatDoorUtilitySorts6
import Derived.Test.YtggobegaiijhhaaGreatDoorUtilitySorts4
import Derived.Test.YtggobegaiijhhaaGreatDoorUtilitySorts3
import Derived.Lib.ItoaNum
import Derived.Lib.AtoiAllCases
import Derived.Test.YtggobegaiijhhaaGreatDoorUtilitySorts2
import Derived.Lib.IndexBytes
import Derived.Lib.IndexMore
import Derived.Lib.Strings
import Derived.Lib.AppendIntMem
import Derived.Lib.SmallJoins
import Derived.Test.YtggobegaiijhhaaGreatDoorRows
import Derived.ProofKit
import Derived.LaidMore
import Derived.Stop.Joined
import Derived.Lib.LaidTab
import Derived.Shelf.Vars
import Derived.Handed
import Derived.Lay
set_option linter.unusedVariables false
set_option linter.unusedSimpArgs false
namespace Go.GV
open Go.RowKit Go.Op
structure Rw where
  s:List Bytes
  sA:Option Addr
  sC:Nat
deriving Inhabited
def Rw.enc (a:Rw):List Value:=[vL a.sA a.s.length a.sC]
theorem Rw.enc_len (a:Rw):(Rw.enc a).length=1:=rfl
theorem Rw.enc_one (a:Rw):(Rw.enc a).all Value.oneCell'=true:=rfl
def RwE (t:Nat) (e:Rw):Ent:=Ent.row (.slice e.sA e.s.length e.sC) t 1 e.s.length (e.s.map vS)
section
variable {S:List Nat} {w00 w0 w:World} {L M:List Ent} {α:Type} {f:α→Ent}
theorem St.keepN (n:Nat) (m:List Bool) {L':List Ent} (hm:mask m (M.take n)++M.drop n=L') (h:St S w0 w M):St S w0 w L':=by
  refine hm ▸ h.sublist ?_
  have:=(mask_sublist m (M.take n)).append (List.Sublist.refl (M.drop n))
  rwa [List.take_append_drop] at this
theorem St.headN (n:Nat) {L':List Ent} (hm:M.take n=L') (h:St S w0 w M):St S w0 w L':=hm ▸ h.sublist (List.take_sublist n M)
theorem take_perm [Inhabited α] {X:List α} {k:Nat} (hk:k<X.length):X.Perm (X.getD k default::X.eraseIdx k):=by
  have:=(perm_front X k hk).symm
  rwa [show X[k]=X.getD k default by rw [List.getD_eq_getElem?_getD,List.getElem?_eq_getElem hk];rfl] at this
theorem put_perm {X:List α} {k:Nat} {x:α} (hk:k<X.length):(x::X.eraseIdx k).Perm (X.set k x):=by
  have:=perm_front (X.set k x) k (by rw [List.length_set];exact hk)
  rwa [List.getElem_set_self,List.eraseIdx_set_eq] at this
theorem seg_take [Inhabited α] (n:Nat) {X:List α} {T:List Ent} {k:Nat} (h:St S w0 w M) (hM:M.drop n=X.map f++T) (hk:k<X.length):St S w0 w (f (X.getD k default)::(M.take n++((X.eraseIdx k).map f++T))):=by
  refine h.perm ?_
  have h1:M.Perm (M.take n++(X.map f++T)):=by rw [← hM,List.take_append_drop]
  refine h1.trans ?_
  have h2:=((take_perm hk).map f).append_right T
  rw [List.map_cons,List.cons_append] at h2
  exact (h2.append_left (M.take n)).trans List.perm_middle
theorem seg_put (n:Nat) {X:List α} {T:List Ent} {k:Nat} {x:α} {e:Ent} (h:St S w0 w (e::M)) (he:e=f x) (hM:M.drop n=(X.eraseIdx k).map f++T) (hk:k<X.length):St S w0 w (M.take n++((X.set k x).map f++T)):=by
  subst he
  refine h.perm ?_
  have h1:(f x::M).Perm (f x::(M.take n++((X.eraseIdx k).map f++T))):=by rw [← hM,List.take_append_drop]
  refine h1.trans ?_
  refine List.perm_middle.symm.trans (List.Perm.append_left _ ?_)
  have h2:=((put_perm (x:=x) hk).map f).append_right T
  rwa [List.map_cons,List.cons_append] at h2
theorem seg_snoc (n:Nat) {X:List α} {T:List Ent} {x:α} {e:Ent} (h:St S w0 w (e::M)) (he:e=f x) (hM:M.drop n=X.map f++T):St S w0 w (M.take n++((X++[x]).map f++T)):=by
  subst he
  refine h.perm ?_
  have h1:(f x::M).Perm (f x::(M.take n++(X.map f++T))):=by rw [← hM,List.take_append_drop]
  refine h1.trans ?_
  refine List.perm_middle.symm.trans (List.Perm.append_left _ ?_)
  rw [List.map_append,List.append_assoc]
  exact List.perm_middle.symm
theorem seg_nil (n:Nat) {X:List α} {T:List Ent} {x:α} {te:TypeId} {sz:Nat} (h:St S w0 w M) (he:Ent.row (.slice none 0 0) te sz 0 []=f x) (hM:M.drop n=X.map f++T):St S w0 w (M.take n++((X++[x]).map f++T)):=
  seg_snoc n (h.nilrow te sz) he hM
theorem oL_ {P:Program} {E:Env} {o:Oper} {K:Value→List Ent→Prop} {L':List Ent} (hL:∀ w,St S w0 w L→St S w0 w L') (h:OpJ P S w0 E L' o K):OpJ P S w0 E L o K:=fun w hS=>h w (hL w hS)
theorem seg_mem (n:Nat) {X:List α} {T:List Ent} (hM:M.drop n=X.map f++T):∀ e∈X.map f,e∈M:=fun e he =>
  (List.drop_sublist n M).subset (hM ▸ List.mem_append_left _ he)
theorem RO.of_memF {Lc Lr:List Ent} (hS:St S w0 w (Lc++Lr)) (h0:St [] w00 w (Lc++Lr)) {e:TypeId} {sz n c:Nat} {A:Option Addr} {cs:List Value} (hj:Ent.row (.slice A n c) e sz n cs∈Lr):RO (Lown Lc++List.range w00.heap.size) w A cs:=by
  obtain ⟨j,hlt,hj⟩:=List.mem_iff_getElem.1 hj
  exact RO.of_rowF hS h0 j (by rw [List.getElem?_eq_getElem hlt,hj])
theorem mem_seg {X:List Rw} {t i:Nat} (hi:i<X.length):Ent.row (.slice (X.getD i default).sA (X.getD i default).s.length (X.getD i default).sC) t 1 (X.getD i default).s.length ((X.getD i default).s.map vS)∈X.map (RwE t):=by
  have h1:X.getD i default∈X:=by rw [List.getD_eq_getElem?_getD,List.getElem?_eq_getElem hi];exact List.getElem_mem hi
  exact List.mem_map_of_mem (f:=RwE t) h1
theorem getD_out [Inhabited α] {X:List α} {i:Nat} (h:X.length≤i):X.getD i default=default:=by rw [List.getD_eq_getElem?_getD,List.getElem?_eq_none h];rfl
theorem ron_segF {Lc Lr:List Ent} {X:List Rw} {t:Nat} (hS:St S w0 w (Lc++Lr)) (h0:St [] w00 w (Lc++Lr)) (hX:∀ e∈X.map (RwE t),e∈Lr) (i:Nat):RO (Lown Lc++List.range w00.heap.size) w (X.getD i default).sA ((X.getD i default).s.map vS):=by
  by_cases hi:i<X.length
  · exact RO.of_memF hS h0 (hX _ (mem_seg hi))
  · rw [getD_out (by omega)];exact RO.nil
theorem cap_seg {X:List Rw} {t:Nat} (hS:St S w0 w L) (hX:∀ e∈X.map (RwE t),e∈L) (i:Nat):(X.getD i default).s.length≤(X.getD i default).sC:=by
  by_cases hi:i<X.length
  · rcases row_cap (hS.hold _ (hX _ (mem_seg hi))) with h | ⟨_,h,h2⟩
    · exact h
    · rw [h,h2];exact Nat.le_refl _
  · rw [getD_out (by omega)];exact Nat.zero_le _
theorem RO.empty {A:Option Addr} {xs:List α} {g:α→Value} (h:RO S w0 A (xs.map g)) (hA:A.isNone=true):xs=[]:=by
  cases xs with
  | nil=>rfl
  | cons x r =>
    obtain ⟨a,ha,_⟩:=h 0 (g x) rfl
    rw [ha] at hA;cases hA
theorem RO.emptyF {A:Option Addr} {xs:List α} {g:α→List Value} {m:Nat} (hg:∀ a,(g a).length=m+1) (h:RO S w0 A (xs.flatMap g)) (hA:A.isNone=true):xs=[]:=by
  cases xs with
  | nil=>rfl
  | cons x r =>
    have hl:0<((x::r).flatMap g).length:=by rw [List.flatMap_cons,List.length_append,hg];omega
    obtain ⟨a,ha,_⟩:=h 0 _ (List.getElem?_eq_getElem hl)
    rw [ha] at hA;cases hA
end
section
variable {P:Program} {n:Dim} {S:List Nat} {w0:World} {Q:Post} {E:Env} {L:List Ent}
theorem JX_retsD {fn:Func} {rs:List ResultVar} {S1:List Nat} {w1:World} {φ:Value→List Ent→World→Prop} (vs:List Value) (v:Value) (hr:fn.results=rs.toArray) (hv:∀ w,St S w0 w L→resAll P E w rs vs)
    (hvv:v=(if h:vs.length=1 then vs[0] else .tuple vs.toArray)) (L':List Ent) (hL:∀ w,St S w0 w L→St S w0 w L') (hB:∀ w L,St S w0 w L→St S1 w1 w L) (hφ:∀ w,St S w0 w L→φ v L' w) (hd:n.ds=[]:=by rfl) :
    JX n S w0 (bodyPost P fn (GivesW S1 w1 φ)) .ret E L:=by
  intro a w hR hS
  have h0:=JX_rets (P:=P) (n:=n) (S:=S) (w0:=w0) (E:=E) (L:=L) (φ:=fun u L2=>u=v∧L2=L) vs v hr hv hvv L (fun _ h=>h) ⟨rfl,rfl⟩ hd a w hR hS
  obtain ⟨hd,u,hu,u2,L2,he,hp,hs⟩:=h0
  obtain ⟨rfl,rfl⟩:=hp
  exact ⟨hd,u,hu,u2,L',he,hφ w hs,hB w _ (hL w hs)⟩
end
section
variable {P:Program} {E:Env} {w:World} {x y:Operand} {dst:Option Nat} {t t' ty:TypeId} {pos:String} {af:Array Edge} {g:Option (Nat × Bool)}
theorem x_eql_nil {p q:Array TypeId} {v:Bool} (hx:ev E x = .nilFunc) (hy:ev E y = .nilFunc) (ht:P.underlying t=some (.func p q v)):(execOp (ev E) ⟨dst,.binOp .eql t x y t',ty,pos,af,g⟩).run P w = .ok (.value (vB true)) w:=by
  have h:=run_eq_nil (P:=P) (w:=w) ht
  have hb:(binOp .eql t .nilFunc .nilFunc).run P w = .ok (vB true) w:=by
    show Sem.run P (do pure (Value.bool (← Op.equal t .nilFunc .nilFunc))) w=_
    rw [Sem.run_bind,h];rfl
  simp only [execOp,hx,hy]
  show Sem.run P (do let v ← binOp .eql t .nilFunc .nilFunc;pure (Next.value v)) w=_
  rw [Sem.run_bind,hb];rfl
theorem run_eq_sl {e:TypeId} {A:Option Addr} {n c:Nat} (ht:P.underlying t=some (.slice e)):(Op.equal t (.slice A n c) (.slice none 0 0)).run P w = .ok A.isNone w:=by
  show Sem.run P (Op.equalIn Op.maxDepth t (.slice A n c) (.slice none 0 0)) w=_
  have hd:Op.maxDepth=(Op.maxDepth-1)+1:=by decide
  rw [hd]
  unfold Op.equalIn
  rw [Sem.run_bind,run_underlying ht]
  cases A <;> rfl
theorem x_eql_sl {e:TypeId} {A:Option Addr} {n c:Nat} (hx:ev E x=vL A n c) (hy:ev E y=vL none 0 0) (ht:P.underlying t=some (.slice e)):(execOp (ev E) ⟨dst,.binOp .eql t x y t',ty,pos,af,g⟩).run P w = .ok (.value (vB A.isNone)) w:=by
  have h:=run_eq_sl (P:=P) (w:=w) (A:=A) (n:=n) (c:=c) ht
  have hb:(binOp .eql t (.slice A n c) (.slice none 0 0)).run P w = .ok (vB A.isNone) w:=by
    show Sem.run P (do pure (Value.bool (← Op.equal t (.slice A n c) (.slice none 0 0)))) w=_
    rw [Sem.run_bind,h];rfl
  simp only [execOp,hx,hy]
  show Sem.run P (do let v ← binOp .eql t (.slice A n c) (.slice none 0 0);pure (Next.value v)) w=_
  rw [Sem.run_bind,hb];rfl
end
end Go.GV
namespace Go.GV
open Go.RowKit
section
variable {P:Program} {n:Dim} {S:List Nat} {w0 w:World} {Q:Post} {E:Env} {L:List Ent}
def RoundM {X:Type} (n:Dim) (D:X→List Nat) (S:List Nat) (w0:World) (I:X→Prop) (W:X→World→Prop) (Ef:X→Env) (Lf:X→List Ent) (μ:X→Nat) (m:Nat) (Q:Post):Post:=
  Exit.then (fun a w=>∃ x,I x∧W x w∧μ x<m∧Rep { n with ds:=(D x).map mark } (Ef x) a∧St S w0 w (Lf x)) Q
theorem J_loopM {X:Type} {c:Code} (D:X→List Nat) (I:X→Prop) (W:X→World→Prop) (Ef:X→Env) (Lf:X→List Ent) (μ:X→Nat) (x0:X) (h0:I x0) (hD:n.ds=(D x0).map mark) (hE:SubE E (Ef x0)) (hL:∀ w,St S w0 w L→St S w0 w (Lf x0)) (hW:∀ w,St S w0 w L→W x0 w)
    (round:∀ x wb,I x→W x wb→St S w0 wb (Lf x)→J P { n with ds:=(D x).map mark } (Lown (Lf x)) wb c (RoundM n D S w0 I W Ef Lf μ (μ x) Q) (Ef x) (Lf x)):J P n S w0 (.loop c) Q E L:=by
  intro a w hR hS
  refine wpIn_loop_ghost (fun m a w=>∃ x,I x∧W x w∧μ x=m∧Rep { n with ds:=(D x).map mark } (Ef x) a∧St S w0 w (Lf x)) (μ x0) ⟨x0,h0,hW w hS,rfl,?_,hL w hS⟩ ?_
  · have:=hR.sub hE
    exact ⟨this.defers.trans hD,this.size,this.val⟩
  rintro m a w ⟨x,hI,hWx,rfl,hR,hS⟩
  refine wpIn_mono (round x w hI hWx hS a w hR hS.base) ?_
  intro e a' w' hq
  cases e with
  | normal=>obtain ⟨x',h1,h2,h3,h4,h5⟩:=hq;exact ⟨μ x',h3,x',h1,h2,rfl,h4,h5⟩
  | _=>exact hq
theorem JX_roundM {X:Type} {n0:Dim} {D:X→List Nat} {S1:List Nat} {w1:World} {I:X→Prop} {W:X→World→Prop} {Ef:X→Env} {Lf:X→List Ent} {μ:X→Nat} {m:Nat} (x:X) (hI:I x) (hm:μ x<m) (hn:n = { n0 with ds:=(D x).map mark }) (hE:SubE E (Ef x)) (hB:∀ w L,St S w0 w L→St S1 w1 w L) (hL:∀ w,St S w0 w L→St S w0 w (Lf x)) (hW:∀ w,St S w0 w L→W x w) :
    JX n S w0 (RoundM n0 D S1 w1 I W Ef Lf μ m Q) .normal E L:=fun _ w hR hS=>⟨x,hI,hW w hS,hm,by have:=hR.sub hE;rw [← hn];exact this,hB w _ (hL w hS)⟩
theorem JX_roundM_exit {X:Type} {n0:Dim} {D:X→List Nat} {S1:List Nat} {w1:World} {I:X→Prop} {W:X→World→Prop} {Ef:X→Env} {Lf:X→List Ent} {μ:X→Nat} {m id:Nat} (h:JX n S w0 Q (.exit id) E L):JX n S w0 (RoundM n0 D S1 w1 I W Ef Lf μ m Q) (.exit id) E L:=h
def NP (Q:Post):Post:=fun e a w=>match e with
  | .panic _=>False
  | e=>Q e a w
theorem NP.of {Q:Post} (e:Exit) (a:Act) (w:World) (h:NP Q e a w):Q e a w:=by
  cases e <;> first | exact h | exact h.elim
theorem leaves_marksW {fn:Func} {tmps:Array Value} {S1:List Nat} {w1:World} {φ:Value→List Ent→World→Prop} {v:Value} (L1 L':List Ent) (hφ:∀ w,St S w0 w L1→φ v L' w) (hL:∀ w,St S w0 w L1→St S w0 w L') (hB:∀ w L,St S w0 w L→St S1 w1 w L) :
    ∀ (Ds:List Nat) (w:World),St S w0 w (Ds.map dfr++L1)→(∀ w,St S w0 w L1→(results fn tmps).run P w = .ok v w)→LeavesInM Fence.wide 0 P fn tmps (GivesW S1 w1 φ) (Ds.map mark) .returning w
  | [],w,hS,hr=>⟨v,hr w hS,v,L',rfl,hφ w hS,hB _ _ (hL _ hS)⟩
  | D::Ds,w,hS,hr=>by
    refine ⟨by simp,.inl ⟨D,_,rfl,run_takeDeferred (obj_at (hS.hold _ List.mem_cons_self)),?_⟩⟩
    exact leaves_marksW L1 L' hφ hL hB Ds _ (hS.putObj (b:=D) (.deferred none)).tail hr
theorem JX_retsMW {fn:Func} {rs:List ResultVar} {S1:List Nat} {w1:World} {φ:Value→List Ent→World→Prop} (Ds:List Nat) (vs:List Value) (v:Value) (hd:n.ds=Ds.map mark) (hr:fn.results=rs.toArray) (L1:List Ent) (h1:∀ w,St S w0 w L→St S w0 w (Ds.map dfr++L1)) (hv:∀ w,St S w0 w L1→resAll P E w rs vs)
    (hvv:v=(if h:vs.length=1 then vs[0] else .tuple vs.toArray)) (L':List Ent) (hL:∀ w,St S w0 w L1→St S w0 w L') (hB:∀ w L,St S w0 w L→St S1 w1 w L) (hφ:∀ w,St S w0 w L1→φ v L' w) :
    JX n S w0 (NP (bodyPostM Fence.wide 0 P fn (GivesW S1 w1 φ))) .ret E L:=by
  intro a w hR hS
  show LeavesInM Fence.wide 0 P fn a.tmps (GivesW S1 w1 φ) a.defers .returning w
  rw [hR.defers,hd]
  refine leaves_marksW L1 L' hφ hL hB Ds w (h1 w hS) (fun w2 hS2=>?_)
  have hR0:Rep { n with ds:=[] } E { a with defers:=[] }:=⟨rfl,hR.size,hR.val⟩
  have h0:=JX_rets (P:=P) (n:={ n with ds:=[] }) (S:=S) (w0:=w0) (E:=E) (L:=L1) (fn:=fn) (φ:=fun u L2=>u=v) vs v hr hv hvv L1 (fun _ h=>h) rfl rfl _ w2 hR0 hS2
  obtain ⟨_,u,hu,u2,L2,he,hp,_⟩:=h0
  cases he
  subst hp
  exact hu
theorem JX_retsMG {fn:Func} {rs:List ResultVar} {S1:List Nat} {w1:World} {φ:Value→List Ent→Prop} (Ds:List Nat) (vs:List Value) (v:Value) (hd:n.ds=Ds.map mark) (hr:fn.results=rs.toArray) (L1:List Ent) (h1:∀ w,St S w0 w L→St S w0 w (Ds.map dfr++L1)) (hv:∀ w,St S w0 w L1→resAll P E w rs vs)
    (hvv:v=(if h:vs.length=1 then vs[0] else .tuple vs.toArray)) (L':List Ent) (hL:∀ w,St S w0 w L1→St S w0 w L') (hB:∀ w L,St S w0 w L→St S1 w1 w L) (hφ:φ v L') :
    JX n S w0 (NP (bodyPostM Fence.wide 0 P fn (Gives S1 w1 φ))) .ret E L:=JX_retsMW (φ:=fun v L _=>φ v L) Ds vs v hd hr L1 h1 hv hvv L' hL hB (fun _ _=>hφ)
theorem calls_JNW {f:FuncId} {fn:Func} {c:Code} {args:Array Value} {w:World} {φ:Value→List Ent→World→Prop} {L0:List Ent} (S:List Nat) (n:Nat)
    (hf:P.funcs[f]? = some fn) (hb:fn.body=some c) (hm:fn.ntmps=n) (E:Env) (hE:E=envOf 0 args.toList) (hn:Nat.ble args.size n=true)
    (hg:Give S w L0) (h:J P { sz:=n } S w c (NP (bodyPostM Fence.wide 0 P fn (GivesW S w φ))) E L0):Calls P f args w (GivesW S w φ):=by
  subst hm
  have hn:=Nat.le_of_ble_eq_true hn
  refine (callsIn_wide (n:=0)).1 (callsIn_of_wp_marks (F:=Fence.wide) hf hb trivial (wpIn_mono (h _ w ⟨rfl,?_,?_⟩ hg.start) NP.of) rfl)
  · simp;omega
  · intro t v hv
    rw [hE] at hv
    have h1:args[t]? = some v:=by have:=(get_envOf _ _ _ _ hv).2;simpa using this
    obtain ⟨hlt,h2⟩:=Array.getElem?_eq_some_iff.1 h1
    simp only [Array.getD_eq_getD_getElem?]
    rw [Array.getElem?_append_left hlt,h1]
    rfl
theorem calls_JNG {f:FuncId} {fn:Func} {c:Code} {args:Array Value} {w:World} {φ:Value→List Ent→Prop} {L0:List Ent} (S:List Nat) (n:Nat)
    (hf:P.funcs[f]? = some fn) (hb:fn.body=some c) (hm:fn.ntmps=n) (E:Env) (hE:E=envOf 0 args.toList) (hn:Nat.ble args.size n=true)
    (hg:Give S w L0) (h:J P { sz:=n } S w c (NP (bodyPostM Fence.wide 0 P fn (Gives S w φ))) E L0):Calls P f args w (Gives S w φ):=calls_JNW (φ:=fun v L _=>φ v L) S n hf hb hm E hE hn hg h
theorem JX_roundA_ret {X:Type} {S1:List Nat} {w1:World} {I:X→Prop} {Ef:X→Env} {Lf:X→List Ent} {μ:X→Nat} {m:Nat} (h:JX n S w0 Q .ret E L):JX n S w0 (Round n S1 w1 I Ef Lf μ m Q) .ret E L:=h
theorem ps_ {ps:List Tmp} {m:Nat} (h:(ps.all fun p=>Nat.blt p m)=true):∀ p∈ps,p<m:=fun p hp=>by
  have:=List.all_eq_true.1 h p hp
  rwa [Nat.blt_eq] at this
theorem sl_ {A:Option Addr} {n m n' m':Nat} (h1:n=n') (h2:m=m'):some (Value.slice A n m)=some (Value.slice A n' m'):=by subst h1;subst h2;rfl
theorem mark_tail (k:Nat) {M G:List Ent} {D:Nat} {Ds:List Nat} (h:St S w0 w (dfr D::M)) (hM:M.drop k=G++Ds.map dfr):St S w0 w (M.take k++(G++(D::Ds).map dfr)):=by
  refine h.perm ?_
  rw [List.map_cons]
  have e:(M.take k++(G++dfr D::Ds.map dfr)).Perm (dfr D::(M.take k++(G++Ds.map dfr))):=by
    rw [← List.append_assoc,← List.append_assoc];exact List.perm_middle
  refine List.Perm.trans ?_ e.symm
  rw [← hM,List.take_append_drop]
theorem drop_seg (k:Nat) {M G T:List Ent} (h:St S w0 w M) (hM:M.drop k=G++T):St S w0 w (M.take k++T):=by
  refine h.sublist ?_
  conv=>rhs;rw [← List.take_append_drop k M,hM]
  exact (List.Sublist.refl _).append (List.sublist_append_right _ _)
theorem split_last (k:Nat) {M G T:List Ent} {e:Ent} (h:St S w0 w (e::M)) (hM:M.drop k=G++T):St S w0 w ((M.take k++T)++(e::G)):=by
  refine h.perm ?_
  refine List.Perm.trans ?_ List.perm_middle.symm
  refine List.Perm.cons _ ?_
  rw [List.append_assoc]
  conv=>lhs;rw [← List.take_append_drop k M,hM]
  exact List.Perm.append_left _ List.perm_append_comm
theorem lown_rangeF {w00:World} (hS:St S w0 w L) (h0:w00.heap.size≤w.heap.size):∀ b∈Lown L++List.range w00.heap.size,b∈List.range w.heap.size:=fun b hb=>by
  rcases List.mem_append.1 hb with h | h
  · exact lown_range hS b h
  · exact List.mem_range.2 (Nat.lt_of_lt_of_le (List.mem_range.1 h) h0)
theorem tail_front (k:Nat) {M:List Ent} {Ds:List Nat} (h:St S w0 w M) (hM:M.drop k=Ds.map dfr):St S w0 w (Ds.map dfr++M.take k):=by
  refine h.perm ?_
  rw [← hM]
  conv=>lhs;rw [← List.take_append_drop k M]
  exact List.perm_append_comm
theorem it_done {X α:Type} {S:List Nat} {w:World} {f:FuncId} {args:Array Value} {xs:List α} {I:List α→X→Prop} {Lf:List α→X→List Ent} (h:Calls P f args w (Gives S w fun v L=>∃ st:X,v=Value.tuple #[]∧L=Lf xs st∧I xs st)) :
    Calls P f args w fun e w'=>(∃ v,e = .returned v) ∧ ∃ st,I xs st∧St S w w' (Lf xs st):=by
  refine h.mono ?_
  rintro e w' ⟨v,L,rfl,⟨st,_,rfl,hI⟩,hS⟩
  exact ⟨⟨v,rfl⟩,st,hI,hS⟩
theorem x_subrow3 {x:Operand} {dst:Option Nat} {t ty e:TypeId} {pos:String} {af:Array Edge} {g:Option (Nat × Bool)} {A:Option Addr} {len cap sz lo hi mx:Nat} {olo ohi omx:Operand} (hx:ev E x = .slice A len cap) (ht:P.underlying t=some (.slice e)) (hn:sizeIs P e=some sz) (hlo:ev E olo=vI (lo:Int)) (hhi:ev E ohi=vI (hi:Int)) (hmx:ev E omx=vI (mx:Int))
    (h1:lo≤hi) (h2:hi≤mx) (h3:mx≤cap):(execOp (ev E) ⟨dst,.slice t x (some olo) (some ohi) (some omx),ty,pos,af,g⟩).run P w = .ok (.value (.slice (subA A mx lo sz) (hi-lo) (mx-lo))) w:=by
  have e1:(0:Int)≤(hi:Int)∧(hi:Int)≤((mx:Nat):Int):=by omega
  have e2:(0:Int)≤(lo:Int)∧(lo:Int)≤((hi:Nat):Int):=by omega
  have e3:(0:Int)≤(mx:Int)∧(mx:Int)≤((cap:Nat):Int):=by omega
  have hr:(Instr.sliceAt t (.slice A len cap) (some (vI (lo:Int))) (some (vI (hi:Int))) (some (vI (mx:Int)))).run P w = .ok (.slice (subA A mx lo sz) (hi-lo) (mx-lo)) w:=by
    simp only [Instr.sliceAt,Instr.slice,Instr.sliceBounds,Instr.sliceBound,asIntOf,run_underlying ht,run_sizeOf_is hn,Sem.run_bind,Sem.run_pure,Result.andThen_ok,if_pos e1,if_pos e2,if_pos e3,Int.toNat_natCast];rfl
  simp only [execOp,hx,Option.map_some,hlo,hhi,hmx]
  show Sem.run P (do let v ← Instr.sliceAt t (.slice A len cap) (some (vI (lo:Int))) (some (vI (hi:Int))) (some (vI (mx:Int)));pure (Next.value v)) w=_
  rw [Sem.run_bind,hr];rfl
end
end Go.GV
namespace Go.Proofs.YtggobegaiijhhaaGreatDoor
namespace R44
open Go.Lib
def vN (s:List UInt8):Nat:=s.foldl (fun n c=>10*n+(c.toNat-48)) 0
def isD (c:UInt8):Bool:=decide (48≤c.toNat)&&decide (c.toNat≤57)
def numV (s:List UInt8):Option Nat:=if (s.length≤4∧s.all isD=true)∧decDigits (vN s)=s then some (vN s) else none
theorem dig_nat {k:Nat} (h:k<10):(UInt8.ofNat (48+k)).toNat=48+k:=by simp;omega
theorem dec_small {n:Nat} (h:n<10):decDigits n=[UInt8.ofNat (48+n)]:=by rw [decDigits,dif_pos h]
theorem dec_big {n:Nat} (h:¬ n<10):decDigits n=decDigits (n / 10)++[UInt8.ofNat (48+n % 10)]:=by rw [decDigits,dif_neg h]
theorem dec_val (n:Nat):vN (decDigits n)=n:=by
  induction n using Nat.strongRecOn with
  | _ n ih =>
    by_cases h:n<10
    · rw [dec_small h];unfold vN;simp only [List.foldl_cons,List.foldl_nil];rw [dig_nat h];omega
    · rw [dec_big h]
      have:=ih (n / 10) (by omega)
      unfold vN at *
      rw [List.foldl_append,this]
      simp only [List.foldl_cons,List.foldl_nil]
      rw [dig_nat (by omega)];omega
theorem dec_all (n:Nat):(decDigits n).all isD=true:=by
  induction n using Nat.strongRecOn with
  | _ n ih =>
    by_cases h:n<10
    · rw [dec_small h];simp [isD];omega
    · rw [dec_big h,List.all_append,ih (n / 10) (by omega)];simp [isD];omega
theorem dec_ne (n:Nat):decDigits n≠[]:=by
  by_cases h:n<10
  · rw [dec_small h];exact List.cons_ne_nil _ _
  · rw [dec_big h];simp
theorem dec_len_aux:∀ (k n:Nat),n<10 ^ (k+1)→(decDigits n).length≤k+1
  | 0,n,h=>by rw [dec_small (by simpa using h)];exact Nat.le_refl _
  | k+1,n,h=>by
    by_cases h2:n<10
    · rw [dec_small h2];simp
    · rw [dec_big h2,List.length_append]
      have:=dec_len_aux k (n / 10) (by rw [Nat.pow_succ] at h;omega)
      simp;omega
theorem dec_len4 {n:Nat} (h:n≤9999):(decDigits n).length≤4:=dec_len_aux 3 n (by omega)
theorem dec_len19 {n:Nat} (h:n≤9223372036854775807):(decDigits n).length≤19:=dec_len_aux 18 _ (by omega)
theorem vN_bound:∀ (s:List UInt8) (a k:Nat),s.all isD=true→a<10 ^ k→s.foldl (fun n c=>10*n+(c.toNat-48)) a<10 ^ (k+s.length)
  | [],a,k,_,h=>h
  | c::r,a,k,hd,h=>by
    rw [List.all_cons,Bool.and_eq_true] at hd
    have hc:=hd.1
    unfold isD at hc
    simp only [Bool.and_eq_true,decide_eq_true_eq] at hc
    have:=vN_bound r (10*a+(c.toNat-48)) (k+1) hd.2 (by rw [Nat.pow_succ];omega)
    rw [List.foldl_cons,List.length_cons]
    rwa [show k+1+r.length=k+(r.length+1) by omega] at this
theorem numV_dec {n:Nat} (h:n≤9999):numV (decDigits n)=some n:=by
  unfold numV
  rw [dec_val,if_pos ⟨⟨dec_len4 h,dec_all n⟩,rfl⟩]
theorem numV_some {s:List UInt8} {n:Nat} (h:numV s=some n):n≤9999∧s=decDigits n:=by
  unfold numV at h
  split at h
  · rename_i h1
    cases h
    have:=vN_bound s 0 0 h1.1.2 (by decide)
    have h2:10 ^ (0+s.length)≤10 ^ 4:=Nat.pow_le_pow_right (by decide) (by omega)
    refine ⟨?_,h1.2.symm⟩
    unfold vN;omega
  · cases h
theorem parse_digits:∀ (s:List UInt8) (a:Nat),s.all isD=true→a<10000→s.foldl (fun n c=>10*n+(c.toNat-48)) a<100000→parseUint10 a s = .ok (s.foldl (fun n c=>10*n+(c.toNat-48)) a)
  | [],a,_,_,_=>rfl
  | c::r,a,hd,ha,hb=>by
    rw [List.all_cons,Bool.and_eq_true] at hd
    have hc:=hd.1
    unfold isD at hc
    simp only [Bool.and_eq_true,decide_eq_true_eq] at hc
    rw [List.foldl_cons] at hb ⊢
    have hge:∀ (l:List UInt8) (x:Nat),x≤l.foldl (fun n c=>10*n+(c.toNat-48)) x:=by
      intro l
      induction l with
      | nil=>intro x;exact Nat.le_refl _
      | cons d l ih=>intro x;rw [List.foldl_cons];have:=ih (10*x+(d.toNat-48));omega
    have h1:=hge r (10*a+(c.toNat-48))
    rw [parseUint10,if_pos hc,if_neg (by omega),if_neg (by omega),Nat.mul_comm a 10]
    by_cases hs:10*a+(c.toNat-48)<10000
    · exact parse_digits r _ hd.2 hs hb
    · cases r with
      | nil=>rfl
      | cons d r =>
        exfalso
        have h2:=hge r (10*(10*a+(c.toNat-48))+(d.toNat-48))
        rw [List.foldl_cons] at hb
        omega
theorem atoi_dec {n:Nat} (h:n≤9999):atoiAll (decDigits n) = .ok (n:Int):=by
  have hp:parseMag (decDigits n) = .ok n:=by
    unfold parseMag
    rw [if_neg (dec_ne n)]
    have hv:=dec_val n
    unfold vN at hv
    rw [parse_digits _ 0 (dec_all n) (by decide) (by rw [hv];omega),hv]
  cases hd:decDigits n with
  | nil=>exact absurd hd (dec_ne n)
  | cons c r =>
    have ha:=dec_all n
    rw [hd,List.all_cons,Bool.and_eq_true] at ha
    have hc:=ha.1
    unfold isD at hc
    simp only [Bool.and_eq_true,decide_eq_true_eq] at hc
    rw [atoiAll_plain c r (by omega) (by omega),← hd,hp]
    unfold signless
    simp only
    rw [if_neg (by omega)]
def AtoiJ (s:List UInt8) (n:Int) (er:Bool):Prop:=(er=true→atoiAll s = .ok n)∧(er=false → ∀ v,atoiAll s ≠ .ok v) ∧ -9223372036854775808≤n∧n≤9223372036854775807
def SmallJ (s:List UInt8) (n:Int) (ok:Bool):Prop:=(ok=true→numV s=some n.toNat∧0≤n∧n≤9999)∧(ok=false→numV s=none)
theorem small_of {s:List UInt8} {n:Int} {er:Bool} (h:AtoiJ s n er):SmallJ s n (((er&&decide (0≤n))&&decide (n≤9999))&&decide (decDigits n.toNat=s)):=by
  refine ⟨fun hk=>?_,fun hk=>?_⟩
  · simp only [Bool.and_eq_true,decide_eq_true_eq] at hk
    obtain ⟨⟨⟨_,h0⟩,h9⟩,he⟩:=hk
    rw [← he,numV_dec (by omega)]
    exact ⟨rfl,h0,h9⟩
  · cases hn:numV s with
    | none=>rfl
    | some m =>
      exfalso
      obtain ⟨hm,hs⟩:=numV_some hn
      have ha:=atoi_dec hm
      rw [← hs] at ha
      cases her:er with
      | false=>exact h.2.1 her _ ha
      | true =>
        have:=h.1 her
        rw [ha] at this
        injection this with this
        subst this
        rw [her] at hk
        have e:decDigits (((m:Nat):Int)).toNat=s:=by rw [Int.toNat_natCast];exact hs.symm
        have e1:decide (0≤((m:Nat):Int))=true:=decide_eq_true (by omega)
        have e2:decide (((m:Nat):Int)≤9999)=true:=decide_eq_true (by omega)
        have e3:decide (decDigits (((m:Nat):Int)).toNat=s)=true:=decide_eq_true e
        rw [e1,e2,e3] at hk
        cases hk
theorem atoi_bd {s:List UInt8} {n:Int} {er:Bool} (h:AtoiJ s n er) : -9223372036854775808≤n∧n≤9223372036854775807:=h.2.2
def restD (m:Nat):List UInt8:=if m=0 then [] else decDigits m
def DigJ (n m:Nat) (s:List UInt8):Prop:=(s=[]∧m=n)∨(s≠[]∧decDigits n=restD m++s)
theorem DigJ.start (n:Nat):DigJ n n []:=.inl ⟨rfl,rfl⟩
theorem dig_split {m:Nat} : decDigits m=restD (m / 10)++[UInt8.ofNat (48+m % 10)]:=by
  by_cases h:m<10
  · rw [dec_small h];unfold restD;rw [if_pos (by omega)];simp;congr 2;omega
  · rw [dec_big h];unfold restD;rw [if_neg (by omega)]
theorem DigJ.step {n m:Nat} {s:List UInt8} (h:DigJ n m s) (hc:0<m∨s=[]):DigJ n (m / 10) ([UInt8.ofNat (48+m % 10)]++s):=by
  refine .inr ⟨by simp,?_⟩
  rw [← List.append_assoc,← dig_split]
  rcases h with ⟨h1,h2⟩ | ⟨h1,h2⟩
  · rw [h1,h2,List.append_nil]
  · rw [h2]
    rcases hc with hc | hc
    · unfold restD;rw [if_neg (by omega)]
    · exact absurd hc h1
theorem DigJ.done {n m:Nat} {s:List UInt8} (h:DigJ n m s) (h0:m=0) (hs:s≠[]):s=decDigits n:=by
  rcases h with ⟨h1,_⟩ | ⟨_,h2⟩
  · exact absurd h1 hs
  · rw [h2,h0];rfl
end R44
end Go.Proofs.YtggobegaiijhhaaGreatDoor
namespace Go.Proofs.YtggobegaiijhhaaGreatDoor
open Go.GV
namespace R45
def cutB (b:UInt8):Bytes→Option (Bytes × Bytes)
  | []=>none
  | c::t=>if c=b then some ([],t) else (cutB b t).map fun p=>(c::p.1,p.2)
theorem cutB_le {b:UInt8} : ∀ {s a r:Bytes},cutB b s=some (a,r)→s=a++b::r
  | [],a,r,h=>by cases h
  | c::t,a,r,h=>by
    rw [cutB] at h;split at h
    · rename_i e;cases h;rw [e];rfl
    · cases hq:cutB b t with
      | none=>rw [hq] at h;cases h
      | some p =>
        rw [hq] at h;cases h
        rw [cutB_le (a:=p.1) (r:=p.2) hq];rfl
def IxJ (c:UInt8) (s:Bytes) (r:Int):Prop:=(r = -1∧c∉s∧cutB c s=none) ∨ ∃ k:Nat,r=k∧k<s.length∧c∉s.take k∧s.getD k 0=c∧cutB c s=some (s.take k,s.drop (k+1))
theorem ixb_lib (c:UInt8):∀ s:Bytes,IxJ c s (Lib.indexByte s c)
  | []=>.inl ⟨rfl,by simp,rfl⟩
  | b::l=>by
    rw [Lib.indexByte]
    by_cases h:b=c
    · subst h
      rw [if_pos (by simp)]
      exact .inr ⟨0,rfl,by simp,by simp,rfl,by rw [cutB,if_pos rfl];rfl⟩
    · rw [if_neg (by simpa using h)]
      rcases ixb_lib c l with ⟨h1,h2,h3⟩ | ⟨k,h1,h2,h3,h4,h5⟩
      · rw [if_pos (by rw [h1];rfl)]
        exact .inl ⟨rfl,by simp only [List.mem_cons,not_or];exact ⟨fun e=>h e.symm,h2⟩,by rw [cutB,if_neg h,h3];rfl⟩
      · rw [if_neg (by rw [h1];intro e;have:=beq_iff_eq.1 e;omega),h1]
        refine .inr ⟨k+1,rfl,by simp;omega,?_,h4,?_⟩
        · rw [List.take_succ_cons,List.mem_cons,not_or];exact ⟨fun e=>h e.symm,h3⟩
        · rw [cutB,if_neg h,h5];rfl
theorem cut_lib (c:UInt8) (s:Bytes):(cutB c s=none∧Lib.cut s [c]=(s,[],false)) ∨ ∃ a r,cutB c s=some (a,r)∧Lib.cut s [c]=(a,r,true):=by
  unfold Lib.cut
  rw [Lib.index_one]
  rcases ixb_lib c s with ⟨h1,_,h3⟩ | ⟨k,h1,h2,h3,h4,h5⟩
  · rw [h1];exact .inl ⟨h3,rfl⟩
  · rw [h1,if_pos (by omega)];exact .inr ⟨_,_,h5,rfl⟩
theorem cont_lib (c:UInt8) (s:Bytes):decide (0≤Lib.indexByte s c)=decide (c∈s):=by
  rcases ixb_lib c s with ⟨h1,h2,_⟩ | ⟨k,h1,h2,h3,h4,h5⟩
  · rw [h1];simp [h2]
  · rw [h1]
    have:c∈s:=by rw [← h4,List.getD_eq_getElem?_getD,List.getElem?_eq_getElem h2];exact List.getElem_mem h2
    simp [this]
end R45
end Go.Proofs.YtggobegaiijhhaaGreatDoor
namespace Go.Proofs.YtggobegaiijhhaaGreatDoor
open Go.GV Go.RowKit Go.Op
def TabP (S:List Nat) (w:World):Prop:=1∉S∧1<w.heap.size ∧ ∃ t f,w.heap[1]? = some (.cells (Lib.pow10Tab.map fun z=>Value.int .u64 z).toArray t f)
theorem TabP.on {S Sc:List Nat} {w0 w:World} {Lc Lr:List Ent} (h:TabP S w0) (hS:St S w0 w (Lc++Lr)) (hSc:∀ b∈Sc,∃ e∈Lc,e.own=some b):TabP Sc w:=by
  obtain ⟨h1,h2,t,f,h3⟩:=h
  refine ⟨fun hc=>?_,Nat.lt_of_lt_of_le h2 hS.fr.size,t,f,(hS.fr.block _ h2 h1).trans h3⟩
  obtain ⟨e,he,ho⟩:=hSc _ hc
  rcases hS.own e (List.mem_append_left _ he) _ ho with h4 | h4
  · exact h1 h4
  · omega
def IsIfc (v:Value):Prop:=v = .nilIface ∨ ∃ te pe,v = .iface te pe
structure Tab (S:List Nat) (w:World):Prop where
  pow:TabP S w
  mx:∃ m,RO S w (some ⟨0,0,none⟩) [vI m]
  es:∃ v,IsIfc v∧RO S w (some ⟨4,0,none⟩) [v]
  er:∃ v,IsIfc v∧RO S w (some ⟨5,0,none⟩) [v]
theorem Tab.on {S Sc:List Nat} {w0 w:World} {Lc Lr:List Ent} (h:Tab S w0) (hS:St S w0 w (Lc++Lr)) (hSc:∀ b∈Sc,∃ e∈Lc,e.own=some b):Tab Sc w:=
  ⟨h.pow.on hS hSc,h.mx.imp fun _ k=>k.on hS hSc,h.es.imp fun _ k=>⟨k.1,k.2.on hS hSc⟩,h.er.imp fun _ k=>⟨k.1,k.2.on hS hSc⟩⟩
theorem Tab.again {S:List Nat} {w0 w:World} {L:List Ent} (h:Tab S w0) (hS:St S w0 w L):Tab (Lown L) w:=
  h.on (Lc:=L) (Lr:=[]) (by rw [List.append_nil];exact hS) lown_mem
theorem cell_of {S:List Nat} {w:World} {b:Nat} {v:Value} (h:RO S w (some ⟨b,0,none⟩) [v]):w.cell? ⟨b,0,none⟩=some v:=h.cell (Fr.refl S w) (j:=0) rfl
section
variable {P:Program} {E:Env} {w:World} {x y:Operand} {dst:Option Nat} {t t' ty:TypeId} {pos:String} {af:Array Edge} {g:Option (Nat × Bool)}
def errV (ok:Bool) (N:Nat):Value:=match ok with
  | true=>.nilIface
  | false=>.iface 204 (.pointer (some ⟨N,0,none⟩))
theorem run_eq_nn {m:Array (String × TypeId)} (ht:P.underlying t=some (.interface m)):(Op.equal t .nilIface .nilIface).run P w = .ok true w:=by
  show Sem.run P (Op.equalIn Op.maxDepth t .nilIface .nilIface) w=_
  have hd:Op.maxDepth=(Op.maxDepth-1)+1:=by decide
  rw [hd]
  unfold Op.equalIn
  rw [Sem.run_bind,run_underlying ht];rfl
theorem run_eq_in {m:Array (String × TypeId)} {a:TypeId} {v:Value} (ht:P.underlying t=some (.interface m)):(Op.equal t (.iface a v) .nilIface).run P w = .ok false w:=by
  show Sem.run P (Op.equalIn Op.maxDepth t (.iface a v) .nilIface) w=_
  have hd:Op.maxDepth=(Op.maxDepth-1)+1:=by decide
  rw [hd]
  unfold Op.equalIn
  rw [Sem.run_bind,run_underlying ht];rfl
theorem x_eql_err {m:Array (String × TypeId)} {b:Bool} {N:Nat} (hx:ev E x=errV b N) (ht:P.underlying t=some (.interface m)):(execOp (ev E) ⟨dst,.binOp .eql t x (.const .nilIface) t',ty,pos,af,g⟩).run P w = .ok (.value (vB b)) w:=by
  cases b with
  | true =>
    have hx':ev E x = .nilIface:=hx
    have hb:(binOp .eql t .nilIface .nilIface).run P w = .ok (vB true) w:=by
      show Sem.run P (do pure (Value.bool (← Op.equal t .nilIface .nilIface))) w=_
      rw [Sem.run_bind,run_eq_nn ht];rfl
    have hg:eqGuard .eql t x (.const .nilIface) .nilIface .nilIface=pure ():=by cases x <;> rfl
    simp only [execOp,hx']
    show Sem.run P (do let v ← (do eqGuard .eql t x (.const .nilIface) .nilIface .nilIface;binOp .eql t .nilIface .nilIface);pure (Next.value v)) w=_
    rw [hg]
    show Sem.run P (do let v ← binOp .eql t .nilIface .nilIface;pure (Next.value v)) w=_
    rw [Sem.run_bind,hb];rfl
  | false =>
    have hx':ev E x = .iface 204 (.pointer (some ⟨N,0,none⟩)):=hx
    have hb:(binOp .eql t (.iface 204 (.pointer (some ⟨N,0,none⟩))) .nilIface).run P w = .ok (vB false) w:=by
      show Sem.run P (do pure (Value.bool (← Op.equal t (.iface 204 (.pointer (some ⟨N,0,none⟩))) .nilIface))) w=_
      rw [Sem.run_bind,run_eq_in ht];rfl
    simp only [execOp,hx']
    show Sem.run P (do let v ← binOp .eql t (.iface 204 (.pointer (some ⟨N,0,none⟩))) .nilIface;pure (Next.value v)) w=_
    rw [Sem.run_bind,hb];rfl
end
theorem itoa_ok (n:Int) (w:World) (hT:Tab [] w) (q0:0≤n) (q1:n≤9223372036854775807):Calls Tryz.prog 19 #[vI n] w (Gives [] w fun v L=>v=vS (Lib.decDigits n.toNat)∧L=[]):=by
  obtain ⟨h1,h2,t,f,h3⟩:=hT.pow
  have htab:Lib.TabIs Tryz.prog w "internal/strconv.uint64pow10" .u64 Lib.pow10Tab:=by
    have hg:Tryz.prog.globalNamed "internal/strconv.uint64pow10" = some 1:=by kernel_rfl
    unfold Lib.TabIs World.var?
    rw [hg]
    simp only [Option.bind_some,h3]
  refine (Tryz.strconv_Itoa n (by omega) q1 w htab).mono ?_
  rintro e w' ⟨rfl,k,os,rfl⟩
  refine ⟨_,_,rfl,⟨?_,rfl⟩,St.nil ?_⟩
  · rw [Lib.itoa,if_neg (by omega)]
  · exact Fr.of_below (Lib.below_grow _ _ (Nat.le_refl _) k os)
theorem atoi_ok (s:Bytes) (w:World) (hT:Tab [] w) (q0:s.length≤140737488355328):Calls Tryz.prog 82 #[vS s] w (Gives [] w fun v L=>∃ (n:Int) (er:Bool) (N:Nat),v=Value.tuple #[vI n,errV er N]∧L=[]∧R44.AtoiJ s n er):=by
  obtain ⟨v2,hv2,hr2⟩:=hT.es
  obtain ⟨v3,hv3,hr3⟩:=hT.er
  have hsz:(⟨s.toArray⟩:ByteArray).size=s.length:=by show s.toArray.size=_;simp
  cases ha:Lib.atoiAll s with
  | ok n =>
    refine (Tryz.strconv_Atoi_ok ⟨s.toArray⟩ (by rw [hsz];omega) n ha w).mono ?_
    rintro e w' ⟨rfl,hw⟩
    refine ⟨_,_,rfl,⟨n,true,0,rfl,rfl,fun _=>ha,fun h=>(by cases h),?_⟩,St.nil ?_⟩
    · have:=Lib.atoiAll_bounds ha;omega
    · rcases hw with rfl | ⟨t,rfl⟩
      · exact Fr.refl _ _
      · exact Fr.of_below (Joins.below_bytesWorld _ _ _ _ (Nat.le_refl _))
  | range =>
    refine (Tryz.strconv_Atoi_range ⟨s.toArray⟩ (by rw [hsz];omega) ha v3 w (cell_of hr3) hv3).mono ?_
    rintro e w' ⟨N,rfl,_,_,hb⟩
    have:=Lib.atoiSat_bounds s
    exact ⟨_,_,rfl,⟨Lib.atoiSat s,false,N,rfl,rfl,fun h=>(by cases h),fun _ v=>(by rw [ha];exact fun h=>(by cases h)),by omega,by omega⟩,St.nil (Fr.of_below hb)⟩
  | _ =>
    refine (Tryz.strconv_Atoi_syntax ⟨s.toArray⟩ (by rw [hsz];omega) (show (∀ v,Lib.atoiAll s ≠ .ok v)∧Lib.atoiAll s ≠ .range from by rw [ha];exact ⟨fun v h=>(by cases h),fun h=>(by cases h)⟩) v2 w (cell_of hr2) hv2).mono ?_
    rintro e w' ⟨N,rfl,_,_,hb⟩
    exact ⟨_,_,rfl,⟨0,false,N,rfl,rfl,fun h=>(by cases h),fun _ v=>(by rw [ha];exact fun h=>(by cases h)),by omega,by omega⟩,St.nil (Fr.of_below hb)⟩
theorem sz (s:Bytes):(⟨s.toArray⟩:ByteArray).size=s.length:=by show s.toArray.size=_;simp
theorem cont_ok (c:UInt8) (s:Bytes) (w:World):Calls Tryz.prog 20 #[vS s,vS [c]] w (Gives [] w fun v L=>v=vB (decide (c∈s))∧L=[]):=by
  refine (Tryz.strings_Contains_one ⟨s.toArray⟩ c w).mono ?_
  rintro e w' ⟨rfl,rfl⟩
  exact ⟨_,_,rfl,⟨congrArg vB (R45.cont_lib c s),rfl⟩,St.nil (Fr.refl _ _)⟩
theorem fr_drewN (w:World) (n:Nat):Fr [] w (w.drewN n):=Fr.of_below (below_drewNg w n)
theorem cut_ok (c:UInt8) (s:Bytes) (w:World) (hT:Tab [] w) (q0:s.length≤1000000):Calls Tryz.prog 92 #[vS s,vS [c]] w (Gives [] w fun v L=>∃ (a r:Bytes) (o:Bool),v=Value.tuple #[vS a,vS r,vB o]∧L=[]∧(o=true→R45.cutB c s=some (a,r))∧(o=false→R45.cutB c s=none)∧(a.length+r.length≤s.length)):=by
  obtain ⟨m,hm⟩:=hT.mx
  refine (Tryz.strings_Cut ⟨s.toArray⟩ ⟨#[c]⟩ m w (by rw [sz];omega) (cell_of hm)).mono ?_
  rintro e w' ⟨rfl,n,rfl⟩
  rcases R45.cut_lib c s with ⟨h1,h2⟩ | ⟨a,r,h1,h2⟩
  · refine ⟨_,_,rfl,⟨s,[],false,?_,rfl,fun h=>(by cases h),fun _=>h1,Nat.le_refl _⟩,St.nil (fr_drewN w n)⟩
    show Value.tuple #[vS (Lib.cut s [c]).1,vS (Lib.cut s [c]).2.1,vB (Lib.cut s [c]).2.2]=_
    rw [h2]
  · refine ⟨_,_,rfl,⟨a,r,true,?_,rfl,fun _=>h1,fun h=>(by cases h),by have:=congrArg List.length (R45.cutB_le h1);rw [List.length_append,List.length_cons] at this;omega⟩,St.nil (fr_drewN w n)⟩
    show Value.tuple #[vS (Lib.cut s [c]).1,vS (Lib.cut s [c]).2.1,vB (Lib.cut s [c]).2.2]=_
    rw [h2]
end Go.Proofs.YtggobegaiijhhaaGreatDoor
namespace Go.GV
open Go.RowKit
theorem iface_of {H:Type} {enc:TypeId × Value→H} {P:Program} {w:World} {base:Nat} {sp:Nat→Bool} {held:Bool} {fuel:Nat} {t:TypeId} {m:Array (String × TypeId)} {cs:List Value} {nm:String} {d:DataW H} {p:List MemPlace}
    (ht:P.underlying t=some (.interface m)) (h:DataW.trod enc P w base sp held fuel t cs=some (.iface nm d,p)):∃ te pe,cs=[.iface te pe]:=by
  cases fuel with
  | zero=>cases h
  | succ fuel =>
    unfold DataW.trod at h
    rw [ht] at h
    match cs,h with
    | [.iface te pe],_=>exact ⟨te,pe,rfl⟩
    | [.nilIface],h=>cases h
section
variable {P:Program} {t:TypeId}
theorem open_cap {e:TypeId} (ht:P.underlying t=some (.slice e)):OpenAt P t fun _ cs=>∃ (A:Option Addr) (l c:Nat),cs=[.slice A l c]∧l≤c:=by
  intro H enc w fuel cs x hx
  rcases Deep.open_slice ht hx with ⟨rfl,_⟩ | ⟨a,len,cap,m,n,D,Pl,rfl,_,hlc,_⟩
  · exact ⟨none,0,0,rfl,Nat.le_refl _⟩
  · exact ⟨some a,len,cap,rfl,hlc⟩
theorem open_slW2 {α:Type} [Inhabited α] {e:TypeId} {N:Nat} {f:α→List Value} {B:World→α→Prop} (ht:P.underlying t=some (.slice e)) (hc:P.cellsOf e=N) (hN:∀ a,(f a).length=N) (he:OpenAt P e fun w cs=>∃ a,cs=f a∧B w a) :
    OpenAt P t fun w cs=>∃ (A:Option Addr) (c:Nat) (xs:List α),cs=[.slice A xs.length c]∧RO [] w A (xs.flatMap f)∧(xs.length≤c∧xs.length≤9223372036854775807) ∧ ∀ a∈xs,B w a:=by
  intro H enc w fuel cs x hx
  obtain ⟨A,c,xs,rfl,hR,hl,hB⟩:=open_slW ht hc hN he H enc w fuel cs x hx
  obtain ⟨A2,l2,c2,e2,hle⟩:=open_cap ht H enc w fuel _ x hx
  cases e2
  exact ⟨A,c,xs,rfl,hR,⟨hle,hl⟩,hB⟩
theorem open_sl2 {α:Type} [Inhabited α] {e:TypeId} {N:Nat} {f:α→List Value} {B:α→Prop} (ht:P.underlying t=some (.slice e)) (hc:P.cellsOf e=N) (hN:∀ a,(f a).length=N) (he:OpenAt P e fun _ cs=>∃ a,cs=f a∧B a) :
    OpenAt P t fun w cs=>∃ (A:Option Addr) (c:Nat) (xs:List α),cs=[.slice A xs.length c]∧RO [] w A (xs.flatMap f)∧(xs.length≤c∧xs.length≤9223372036854775807) ∧ ∀ a∈xs,B a:=
  open_slW2 (B:=fun _=>B) ht hc hN he
end
theorem ro_one {w:World} {b:Nat} {v:Value} (h:w.cell? ⟨b,0,none⟩=some v) (hb:b<w.heap.size):RO [] w (some ⟨b,0,none⟩) [v]:=fun j u hj=>by
  cases j with
  | zero=>cases hj;exact ⟨_,rfl,hb,List.not_mem_nil,h⟩
  | succ j=>cases hj
end Go.GV
namespace Go
theorem returnsInHanded_of_change_and_shaped {H:Type} {enc:TypeId × Value→H} {a:Assume} {C:Checked} {os:Os} {f:FuncId} {fn:Func} {s:ChangeSpec} {conds:List PathCond} {apart fresh handsOn again:Bool} {X:World→Array Value→Prop}
    (hX:∀ (w w':World) (args:Array Value),w.heap=w'.heap→X w args→X w' args)
    (own:ownKnob C.prog.godebug=none) (started:os.Started) (noInit:C.prog.inits.idxOf? f=none) (hfn:C.prog.funcs[f]? = some fn)
    (witness:∃ (w:World) (tape:Tape) (i:Input),w.os=os∧(w.forCall tape i).Shaped C.prog∧i.vars=[]∧Input.okWide C.prog (w.forCall tape i) .any w.heap.size f i ∧
      ((s.pre enc C.prog fn conds apart (w.forCall tape i).memory i.args∧X (w.forCall tape i).memory i.args)∧sizedMet enc C.prog fn (OpenSpec.ofChange s) apart (w.forCall tape i).memory i.args)∧a.holds C.prog (lone (Frame.enter C.prog f i.args .normal) [] (w.forCall tape i)))
    (contract:∀ (W:World) (base:Nat) (args:Array Value) (ds gs:List (DataW H)) (before:List MemPlace),
      (∀ (j:Nat) t v,fn.params[j]? = some t→args[j]? = some v→Value.okWide C.prog W .any base t v) →
      DataW.Whole enc C.prog fn.params.toList s.vars apart W args.toList ds gs before →
      X W args→W.ShapedOpen C.prog →
      Calls C.prog f args W fun e W'=>∃ v,e = .returned v∧s.post enc C.prog fn apart fresh handsOn again W args v W') :
    ReturnsInHanded a C os f .any (fun w args=>(s.pre enc C.prog fn conds apart w args∧X w args)∧sizedMet enc C.prog fn (OpenSpec.ofChange s) apart w args) (s.post enc C.prog fn apart fresh handsOn again):=by
  refine returnsInHanded_of_calls own started noInit witness ?_
  intro w tape i _ hsh _ hok hpre _
  obtain ⟨_,_,_,fn',hfn',_,_,_,_,hval⟩:=hok
  obtain rfl:fn'=fn:=Option.some.inj (hfn'.symm.trans hfn)
  obtain ⟨⟨⟨ds,gs,before,hw,_⟩,hx⟩,_⟩:=hpre
  refine (contract (w.forCall tape i) w.heap.size i.args ds gs before hval (DataW.Whole.of_heap (w':=w.forCall tape i) (by rfl) hw) (hX _ _ _ (by rfl) hx) hsh).mono fun e W' ⟨v,he,hp⟩=>?_
  subst he
  exact ChangeSpec.post_blind hp
end Go
namespace Go.Proofs.YtggobegaiijhhaaGreatDoor
open Go.GV Go.RowKit
theorem own:ownKnob Tryz.prog.godebug=none:=by kernel_rfl
theorem gN1:Tryz.prog.globalNamed Rows.utilityRecordsRow.laid[2].1=some 1:=by kernel_rfl
theorem gN2:Tryz.prog.globalNamed Rows.utilityRecordsRow.laid[5].1=some 4:=by kernel_rfl
theorem gN3:Tryz.prog.globalNamed Rows.utilityRecordsRow.laid[4].1=some 5:=by kernel_rfl
theorem gT1:(Tryz.prog.globals[1]?).map (·.type)=some 157:=by kernel_rfl
theorem gT2:(Tryz.prog.globals[4]?).map (·.type)=some 127:=by kernel_rfl
theorem gT3:(Tryz.prog.globals[5]?).map (·.type)=some 127:=by kernel_rfl
theorem gMax {w:World} (h:w.ShapedOpen Tryz.prog):∃ m,w.cell? ⟨0,0,none⟩=some (.int .i64 m):=
  Go.Proofs.cell_of_shapedOpen_int (zero:=#[.int .i64 0]) (t:=3) h (of_decide_eq_true (by kernel_rfl)) (by kernel_rfl) rfl (by kernel_rfl) (by kernel_rfl) Tryz.underlying3
theorem dTab:(Rows.laid_internal_strconv_uint64pow10:DataW Unit)=Lib.tabData .u64 Lib.pow10Tab:=by kernel_rfl
theorem var_cells {W:World} {g:Nat} {cs:Array Value} {l:List Value} {nm:String} (hg:Tryz.prog.globalNamed nm=some g) (hv:W.var? Tryz.prog nm=some cs) (hc:cs.toList=l):g<W.heap.size ∧ ∃ t f,W.heap[g]? = some (.cells l.toArray t f):=by
  unfold World.var? at hv
  rw [hg] at hv
  simp only [Option.bind_some] at hv
  cases ho:W.heap[g]? with
  | none=>rw [ho] at hv;cases hv
  | some o =>
    rw [ho] at hv
    cases o with
    | cells c t f =>
      have hv:some c=some cs:=hv
      obtain rfl:=Option.some.inj hv
      exact ⟨(Array.getElem?_eq_some_iff.1 ho).1,t,f,by rw [← hc]⟩
    | _=>cases hv
theorem cell_at {W:World} {g:Nat} {v:Value} {t:TypeId} {f:Nat × Nat} (h:W.heap[g]? = some (.cells [v].toArray t f)):W.cell? ⟨g,0,none⟩=some v:=by
  simp [World.cell?,h]
noncomputable abbrev start (os:Os):World:=World.laidAll Tryz.prog os Rows.utilityRecordsRow.laid
theorem door_met (os:Os) (args:Array Value):laidMetH Tryz.prog Rows.utilityRecordsRow.laid ((start os).forCall (fun _ _=>0) ⟨#[],args,[]⟩).memory:=by
  rw [MakeChecks.laidMetH_plain _ _ _ (by kernel_rfl)]
  exact laidMet_laidAll args (by kernel_rfl) (by kernel_rfl)
theorem start_os (os:Os):(start os).os=os:=World.laidAll_os _ _ _
theorem tab_of {W:World} (hs:W.ShapedOpen Tryz.prog) (h:laidMetH Tryz.prog Rows.utilityRecordsRow.laid W):Tab [] W:=by
  rw [MakeChecks.laidMetH_plain _ _ _ (by kernel_rfl)] at h
  obtain ⟨ps,⟨g0,t0,cs0,f0,p0,q0,hg0,ht0,hv0,hd0,⟨g1,t1,cs1,f1,p1,q1,hg1,ht1,hv1,hd1,⟨g2,t2,cs2,f2,p2,q2,hg2,ht2,hv2,hd2,⟨g3,t3,cs3,f3,p3,q3,hg3,ht3,hv3,hd3,⟨g4,t4,cs4,f4,p4,q4,hg4,ht4,hv4,hd4,⟨g5,t5,cs5,f5,p5,q5,hg5,ht5,hv5,hd5,⟨g6,t6,cs6,f6,p6,q6,hg6,ht6,hv6,hd6,_,_⟩,_⟩,_⟩,_⟩,_⟩,_⟩,_⟩,_,_⟩:=h
  obtain rfl:=Option.some.inj (gN1.symm.trans hg2)
  obtain rfl:=Option.some.inj (gN2.symm.trans hg5)
  obtain rfl:=Option.some.inj (gN3.symm.trans hg4)
  obtain rfl:=Option.some.inj (gT1.symm.trans ht2)
  obtain rfl:=Option.some.inj (gT2.symm.trans ht5)
  obtain rfl:=Option.some.inj (gT3.symm.trans ht4)
  rw [dTab] at hd2
  have hc:=Lib.cells_of_tab Tryz.underlying157 Tryz.underlying114 (by kernel_rfl) (by kernel_rfl) hd2
  obtain ⟨h1,k1,k2,k3⟩:=var_cells hg2 hv2 hc
  obtain ⟨e5,f5',hc5⟩:=iface_of Tryz.underlying127 hd5
  obtain ⟨e4,f4',hc4⟩:=iface_of Tryz.underlying127 hd4
  obtain ⟨h5,_,_,y5⟩:=var_cells hg5 hv5 hc5
  obtain ⟨h4,_,_,y4⟩:=var_cells hg4 hv4 hc4
  obtain ⟨m,hm⟩:=gMax hs
  exact ⟨⟨List.not_mem_nil,h1,k1,k2,k3⟩,⟨m,ro_one hm (by omega)⟩,⟨_,.inr ⟨e5,f5',rfl⟩,ro_one (cell_at y5) h5⟩,⟨_,.inr ⟨e4,f4',rfl⟩,ro_one (cell_at y4) h4⟩⟩
end Go.Proofs.YtggobegaiijhhaaGreatDoor
