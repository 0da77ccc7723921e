/- GvTa, GvRc, C45r, Pl45h, C45s, Sh45b, Si45 in one text. -/
import Derived.RecoverIn
import Derived.Test.YtggobegaiijhhaaGreatDoorC45p
import Derived.Shelf.SlIter.Nil
import Derived.Shelf.SortM.Plain
import Derived.Shelf.SortM.SortNone
import Derived.Ground.GgzProg
import Derived.Ground.SlgmProg
import Derived.Shelf.SlGeneric
import Derived.Test.YtggobegaiijhhaaGreatDoorProg
import Derived.StringKeys
set_option linter.unusedVariables false
set_option linter.unusedSimpArgs false
set_option maxRecDepth 20000
namespace Go.GV
open Go.RowKit
section
variable {E:Env} {P:Program} {w:World} {x:Operand} {dst:Option Nat} {t a xt ty:TypeId} {pos:String} {af:Array Edge} {g:Option (Nat × Bool)}
theorem x_assert_hit {fs:Array Field} {v:Value} (hx:ev E x = .iface t v) (ht:P.underlying t=some (.struct fs)):(execOp (ev E) ⟨dst,.typeAssert x xt t true,ty,pos,af,g⟩).run P w = .ok (.value (.tuple #[v,vB true])) w:=by
  have h:(Instr.typeAssert (.iface t v) xt t true).run P w = .ok (.tuple #[v,vB true]) w:=by
    unfold Instr.typeAssert
    simp only [Sem.run_bind,run_underlying ht,Result.andThen_ok,if_true,Sem.run_pure]
  simp only [execOp,hx]
  show Sem.run P (do let v ← Instr.typeAssert (.iface t v) xt t true;pure (Next.value v)) w=_
  rw [Sem.run_bind,h];rfl
end
end Go.GV
namespace Go.GV
open Go.RowKit
section
variable {P:Program} {n:Dim} {S:List Nat} {w0 w:World} {Q:Post} {E:Env} {L:List Ent}
theorem rep_start {fn:Func} {args:Array Value} (E:Env) (hE:E=envOf 0 args.toList) (hn:Nat.ble args.size fn.ntmps=true):Rep { sz:=fn.ntmps } E { tmps:=args++Array.replicate (fn.ntmps-args.size) undef,defers:=[] }:=by
  have hn:=Nat.le_of_ble_eq_true hn
  refine ⟨rfl,?_,?_⟩
  · simp;omega
  · intro t v hv
    rw [hE] at hv
    have h1:args[t]? = some v:=by have:=(get_envOf _ _ _ _ hv).2;simpa using this
    obtain ⟨hlt,h2⟩:=Array.getElem?_eq_some_iff.1 h1
    simp only [Array.getD_eq_getD_getElem?]
    rw [Array.getElem?_append_left hlt,h1]
    rfl
theorem calls_JD {f:FuncId} {fn:Func} {c:Code} {args:Array Value} {w:World} {R:Ending→World→Prop} {L0:List Ent} (S:List Nat) (n:Nat)
    (hf:P.funcs[f]? = some fn) (hb:fn.body=some c) (hm:fn.ntmps=n) (E:Env) (hE:E=envOf 0 args.toList) (hn:Nat.ble args.size n=true)
    (hg:Give S w L0) (h:J P { sz:=n } S w c (bodyPostDIn Fence.wide 0 P fn R) E L0):Calls P f args w R:=by
  subst hm
  exact (callsIn_wide (n:=0)).1 (callsIn_of_wp_defers (F:=Fence.wide) hf hb trivial (h _ w (rep_start E hE hn) hg.start) rfl)
theorem JO_defer {ops:Array Oper} {rest:List Oper} {x:Operand} {ts:Array TypeId} {ty:TypeId} {pos:String} {af:Array Edge} {g:Option (Nat × Bool)} {f:FuncId} {caps:Array Value} (hk:known E x=true) (hx:ev E x = .func (.func f) #[] caps) (hw:wants ops E ⟨none,.defer ⟨.value x,#[],ts⟩,ty,pos,af,g⟩)
    (h:JO P { n with ds:=⟨.fn (.func f) caps,#[]⟩::n.ds } S w0 ops rest Q E L) (hro:n.ro=none:=by rfl):JO P n S w0 ops (⟨none,.defer ⟨.value x,#[],ts⟩,ty,pos,af,g⟩::rest) Q E L:=by
  intro a w hR hSt
  unfold wpListIn
  rw [if_pos (wants_wanted hR hw)]
  refine ⟨fun _ _=>trivial,?_⟩
  have hr:(execOp a.eval ⟨none,.defer ⟨.value x,#[],ts⟩,ty,pos,af,g⟩).run P w = .ok (.defer ⟨.fn (.func f) caps,#[]⟩) w:=by
    simp [execOp,resolve,hR.eval hk,hx,Deferred.ofValue,Sem.run_pure]
  rw [show (Wd n.ro).round=none from hro,Oper.semAt_none,hr]
  have h2:Rep { n with ds:=⟨.fn (.func f) caps,#[]⟩::n.ds } E { a with defers:=⟨.fn (.func f) caps,#[]⟩::a.defers }:=⟨congrArg (_ :: ·) hR.defers,hR.size,hR.val⟩
  exact h _ w h2 hSt
def Door (e:Exit) (u:FrameMode):Prop:=((e = .ret∨e = .normal)∧u = .returning) ∨ ∃ c,e = .panic c∧u = .panicking c
theorem JX_door {fn:Func} {e:Exit} {u:FrameMode} {f:FuncId} {caps:Array Value} {φ:Value→List Ent→Prop} {S1 Sc:List Nat} {w1:World} {rs:List ResultVar} {Lc Lr:List Ent} {ψ:Value→List Ent→Prop}
    (hd:n.ds=[⟨.fn (.func f) caps,#[]⟩]) (hu:Door e u) (hc:Callable P f) (hL:∀ w,St S w0 w L→St S w0 w (Lc++Lr)) (hSc:∀ b∈Sc,∃ e∈Lc,e.own=some b)
    (hcl:∀ w,St S w0 w (Lc++Lr)→CallsDIn Fence.wide 0 P f caps u w (fun e u' w'=>settle u' = .returning∧Gives Sc w ψ e w'))
    (hr:fn.results=rs.toArray) (hB:∀ w L,St S w0 w L→St S1 w1 w L)
    (hv:∀ v' L',ψ v' L' → ∃ (vs:List Value) (v:Value),v=(if h:vs.length=1 then vs[0] else .tuple vs.toArray)∧(∀ w,St S w0 w (L'++Lr)→resAll P E w rs vs) ∧ ∃ L2,(∀ w,St S w0 w (L'++Lr)→St S w0 w L2)∧φ v L2) :
    JX n S w0 (bodyPostDIn Fence.wide 0 P fn (Gives S1 w1 φ)) e E L:=by
  intro a w hR hS
  have hS2:=hL w hS
  have hend:∀ w',(∃ v' L',ψ v' L'∧St Sc w w' L')→LeavesIn Fence.wide 0 P fn a.tmps (Gives S1 w1 φ) [] .returning w':=by
    rintro w' ⟨v',L',hψ,hS'⟩
    have hS3:=hS2.after hSc hS'
    obtain ⟨vs,v,hvv,h1,L2,h4,h2⟩:=hv v' L' hψ
    refine ⟨v,?_,v,L2,rfl,h2,hB _ _ (h4 _ hS3)⟩
    unfold results
    rw [hr,List.mapM_toArray]
    simp only [Sem.run_bind,map_eq_pure_bind]
    rw [mapM_runs _ (fun r u h=>?_) rs vs (h1 _ hS3)]
    rotate_left
    · cases r with
      | tmp t=>show Sem.run P (pure _) w'=_;rw [Sem.run_pure];exact congrArg (fun x=>Result.ok x w') (hR.val t u h)
      | cell b t =>
        obtain ⟨p,hp,hl⟩:=h
        show Sem.run P (do let q ← asAddr (a.tmps.getD b undef);loadVar t q) w'=_
        rw [hR.val b _ hp];exact hl
    simp only [Result.andThen_ok,Sem.run_pure]
    rw [hvv]
    simp
  have hl:LeavesIn Fence.wide 0 P fn a.tmps (Gives S1 w1 φ) [⟨.fn (.func f) caps,#[]⟩] u w:=by
    refine leavesIn_cons (f:=f) (args:=caps) ?_ (fun h=>by cases h) ?_ (fun _ _=>trivial) ((hcl w hS2).mono ?_)
    · rcases hu with ⟨_,h⟩ | ⟨c,_,h⟩ <;> rw [h] <;> exact fun h=>by cases h
    · have:=run_callFunc_enter (P:=P) (w:=w) (args:=caps) hc
      simp only [invoke,Array.empty_append];exact this
    · rintro e' u' w' ⟨h1,v',L',rfl,h2,h3⟩
      show LeavesIn Fence.wide 0 P fn a.tmps (Gives S1 w1 φ) [] (settle u') w'
      rw [h1];exact hend w' ⟨v',L',h2,h3⟩
  have hda:a.defers=[⟨.fn (.func f) caps,#[]⟩]:=hR.defers.trans hd
  rcases hu with ⟨h | h,h2⟩ | ⟨c,h,h2⟩ <;> subst h <;> subst h2
  · show LeavesIn _ _ _ _ _ _ a.defers _ _;rw [hda];exact hl
  · show LeavesIn _ _ _ _ _ _ a.defers _ _;rw [hda];exact hl
  · show LeavesIn _ _ _ _ _ _ a.defers _ _;rw [hda];exact hl
def Rec (u:FrameMode) (v:Value) (u2:FrameMode):Prop:=(u = .returning∧v = .nilIface∧u2 = .returning) ∨ ∃ older,u = .panicking ({ v:=v,recovered:=false } :: older)∧u2 = .panicking ({ v:=v,recovered:=true } :: older)
theorem calls_RC {f:FuncId} {fn:Func} {id:Nat} {c:Code} {args:Array Value} {w:World} {φ:Value→List Ent→Prop} {L0:List Ent} {u u2:FrameMode} {v:Value} {o1 o2:Oper} {a b:Nat} {ts:Array TypeId} {ty1 ty2:TypeId} {p1 p2:String} {e1 e2:Array Edge} (S:List Nat) (n:Nat)
    (hf:P.funcs[f]? = some fn) (hb:fn.body=some (.seq (.region id #[o1,o2] false) c)) (hm:fn.ntmps=n) (hu:Rec u v u2)
    (ho1:o1=⟨some a,.call ⟨.builtin .recover,#[],ts⟩,ty1,p1,e1,none⟩) (ho2:o2=⟨some b,.assign (.tmp a),ty2,p2,e2,none⟩)
    (E:Env) (hE:E=envOf 0 args.toList) (hn:Nat.ble args.size n=true) (ha:a<n) (hbn:b<n) (hea:get E a=none)
    (hg:Give S w L0) (h:J P { sz:=n } S w c (bodyPost P fn (Gives S w φ)) ((b,v)::E) L0):CallsDIn Fence.wide 0 P f args u w (fun e u' w'=>u'=u2∧Gives S w φ e w'):=by
  subst hm
  refine callsDIn_of_wpSIn hf hb trivial fun c₀ cs hc0=>?_
  apply wpSIn_seq
  apply wpSIn_region
  have hR:=rep_start (fn:=fn) E hE hn
  generalize hact:({ tmps:=args++Array.replicate (fn.ntmps-args.size) undef,defers:=[] } : Act)=act at hR ⊢
  have hR1:=Rep.put hR (dst:=some a) (fun d hd=>by cases hd;exact ha) v
  have hR2:=Rep.put hR1 (dst:=some b) (fun d hd=>by cases hd;exact hbn) v
  have hev:(act.put (some a) v).eval (.tmp a)=v:=hR1.val a v (by simp [GV.put,get])
  have hbody:Code.wpSIn Fence.wide 0 P c (bodyPostS P fn c₀ cs (fun e u' w'=>u'=u2∧Gives S w φ e w')) ((act.put (some a) v).put (some b) v) ({ c₀ with mode:=u2 } :: cs) w:=by
    have hR3:Rep { sz:=fn.ntmps } ((b,v)::E) ((act.put (some a) v).put (some b) v):=by
      refine ⟨hR2.defers,hR2.size,fun t z hz=>?_⟩
      by_cases hbt:b=t
      · subst hbt;exact hR2.val b z (by simpa [GV.put,get] using hz)
      · have hb':Nat.beq b t=false:=by
          cases hq:Nat.beq b t with
          | false=>rfl
          | true=>exact absurd (Nat.eq_of_beq_eq_true hq) hbt
        simp only [get,hb',cond_false] at hz
        by_cases hat:a=t
        · subst hat
          rw [hea] at hz;cases hz
        · have ha':Nat.beq a t=false:=by
            cases hq:Nat.beq a t with
            | false=>rfl
            | true=>exact absurd (Nat.eq_of_beq_eq_true hq) hat
          exact hR2.val t z (by simpa [GV.put,get,hb',ha'] using hz)
    refine wpSIn_of_wpIn rfl (wpIn_mono (h _ w hR3 hg.start) fun e a' w' hq=>?_)
    cases e with
    | normal=>obtain ⟨h1,v',h2,h3⟩:=hq;exact ⟨h1,u2,rfl,v',h2,rfl,h3⟩
    | ret=>obtain ⟨h1,v',h2,h3⟩:=hq;exact ⟨h1,u2,rfl,v',h2,rfl,h3⟩
    | panic c=>obtain ⟨h1,h3⟩:=hq;exact ⟨h1,u2,rfl,rfl,h3⟩
    | outgrown=>obtain ⟨_,_,h,_⟩:=hq;cases h
    | exit id=>exact hq.elim
    | goto l=>exact hq.elim
  subst ho1 ho2
  rcases hu with ⟨h1,h2,h3⟩ | ⟨older,h1,h3⟩
  · subst h1 h2 h3
    have hcs : { c₀ with mode:=FrameMode.returning } = c₀:=by cases c₀;simp_all
    rw [hcs] at hbody
    simp [wpOpsSIn,go_sem,recoverD,hc0,Exit.thenS,Region.wanted,List.range,List.range.loop]
    rw [if_pos (show a<act.tmps.size by rw [hR.size];exact ha)]
    exact hbody
  · subst h1 h3
    simp [wpOpsSIn,go_sem,recoverD,hc0,Exit.thenS,Region.wanted,List.range,List.range.loop]
    rw [if_pos (show a<act.tmps.size by rw [hR.size];exact ha)]
    exact hbody
end
section
variable {P:Program} {E:Env} {w:World} {x:Operand} {dst:Option Nat} {t a xt t' ty:TypeId} {pos:String} {af:Array Edge} {g:Option (Nat × Bool)}
theorem eq_nil_nil {m:Array (String × TypeId)} (ht:P.underlying t=some (.interface m)):(Op.equal t .nilIface .nilIface).run P w = .ok true w:=by
  show Sem.run P (Op.equalIn Op.maxDepth t .nilIface .nilIface) w=_
  have hd:Op.maxDepth=(Op.maxDepth-1)+1:=by decide
  rw [hd]
  unfold Op.equalIn
  rw [Sem.run_bind,run_underlying ht];rfl
theorem eq_if_nil {m:Array (String × TypeId)} {b:TypeId} {v:Value} (ht:P.underlying t=some (.interface m)):(Op.equal t (.iface b v) .nilIface).run P w = .ok false w:=by
  show Sem.run P (Op.equalIn Op.maxDepth t (.iface b v) .nilIface) w=_
  have hd:Op.maxDepth=(Op.maxDepth-1)+1:=by decide
  rw [hd]
  unfold Op.equalIn
  rw [Sem.run_bind,run_underlying ht];rfl
theorem x_neq_nn {m:Array (String × TypeId)} (hx:ev E x = .nilIface) (ht:P.underlying t=some (.interface m)):(execOp (ev E) ⟨dst,.binOp .neq t x (.const .nilIface) t',ty,pos,af,g⟩).run P w = .ok (.value (vB false)) w:=by
  have hb:(binOp .neq t .nilIface .nilIface).run P w = .ok (vB false) w:=by
    show Sem.run P (do pure (Value.bool (!(← Op.equal t .nilIface .nilIface)))) w=_
    rw [Sem.run_bind,eq_nil_nil ht];rfl
  have hg:eqGuard .neq t x (.const .nilIface) .nilIface .nilIface=pure ():=by cases x <;> rfl
  simp only [execOp,hx]
  show Sem.run P (do let v ← (do eqGuard .neq t x (.const .nilIface) .nilIface .nilIface;binOp .neq t .nilIface .nilIface);pure (Next.value v)) w=_
  rw [hg]
  show Sem.run P (do let v ← binOp .neq t .nilIface .nilIface;pure (Next.value v)) w=_
  rw [Sem.run_bind,hb];rfl
theorem x_neq_in {m:Array (String × TypeId)} {b:TypeId} {v:Value} (hx:ev E x = .iface b v) (ht:P.underlying t=some (.interface m)):(execOp (ev E) ⟨dst,.binOp .neq t x (.const .nilIface) t',ty,pos,af,g⟩).run P w = .ok (.value (vB true)) w:=by
  have hb:(binOp .neq t (.iface b v) .nilIface).run P w = .ok (vB true) w:=by
    show Sem.run P (do pure (Value.bool (!(← Op.equal t (.iface b v) .nilIface)))) w=_
    rw [Sem.run_bind,eq_if_nil ht];rfl
  have hg:eqGuard .neq t x (.const .nilIface) (.iface b v) .nilIface=pure ():=by cases x <;> rfl
  simp only [execOp,hx]
  show Sem.run P (do let v' ← (do eqGuard .neq t x (.const .nilIface) (.iface b v) .nilIface;binOp .neq t (.iface b v) .nilIface);pure (Next.value v')) w=_
  rw [hg]
  show Sem.run P (do let v' ← binOp .neq t (.iface b v) .nilIface;pure (Next.value v')) w=_
  rw [Sem.run_bind,hb];rfl
theorem x_assert_nil {fs:Array Field} {zv:Value} (hx:ev E x = .nilIface) (ht:P.underlying a=some (.struct fs)) (hz:zeroIs P a=some zv):(execOp (ev E) ⟨dst,.typeAssert x xt a true,ty,pos,af,g⟩).run P w = .ok (.value (.tuple #[zv,vB false])) w:=by
  have h:(Instr.typeAssert .nilIface xt a true).run P w = .ok (.tuple #[zv,vB false]) w:=by
    unfold Instr.typeAssert
    simp only [Sem.run_bind,run_underlying ht,Result.andThen_ok,if_true,run_zeroValue_is hz,Sem.run_pure]
  simp only [execOp,hx]
  show Sem.run P (do let v ← Instr.typeAssert .nilIface xt a true;pure (Next.value v)) w=_
  rw [Sem.run_bind,h];rfl
end
end Go.GV
namespace Go.Proofs.YtggobegaiijhhaaGreatDoor
open Go.GV Go.Proofs.Tryz Ty
open Go.GV.Ent (blk row mp)
theorem catch_pan (o:Nat) (q:Nat) (line:Bytes) (cd:Int) (fd:Bool) (chA:OA_) (chN:Nat) (chC:Nat) (lnA:OA_) (lnN:Nat) (lnC:Nat) (z:Int) (w:World) (hg:Give [o,q] w [blk o 48 [vI cd,vB fd,vL chA chN chC,vL lnA lnN lnC],blk q 38 [vI z]]):CallsDIn Fence.wide 0 prog 26 #[pB o 0,pB q 0] (FrameMode.panicking (R45.pan line)) w (fun e9 u9 w9=>u9=FrameMode.panicking [{ v:=Value.iface 77 (vG [vS line,vI 0]),recovered:=true }]∧Gives [o,q] w (fun v L=>∃ nb:Nat,v=Value.tuple #[]∧L=[blk o 48 [vI 0,vB true,vL none 0 0,vL (some ⟨nb,0,none⟩) 1 1],blk q 38 [vI z],blk nb 9 [vS line]]) e9 w9):=by
 refine calls_RC [o,q] 32 func26 rfl ntmps26 (.inr ⟨[],rfl,rfl⟩) rfl rfl [(0,_),(1,_)] rfl rfl dd_ dd_ rfl hg ?_
 refine q_ (g_ (s_ mv_ (s_ (x_assert_hit rfl underlying77) (s_ mv_ (s_ (ex_ 0) (s_ (ex_ 1) (o_ (al_ ze77 fun b1=>?_))))))))
 refine o_ (stG 0 sz77 ?_)
 refine s_ av_ (z_ (n_ (q_ (q_ (g_ (s_ mv_ (s_ (x_neq_in rfl underlying20) (s_ mv_ (sg_ rfl mv_ (jg_ rfl (vB false) (rfl) (jr_ (vB false) (z_ (n_ (iff_ (sk_ (n_ (q_ (g_ ?_))))))))))))))))))
 refine s_ mv_ (s_ mv_ (sg_ rfl (fA 1 fi77_1) (rg_ rfl (ld_ 0 sc38) (jg_ rfl (vB false) (rfl) (jr_ (vB false) (z_ (xk_ [0,1,3,4,23] ?_)))))))
 refine n_ (iff_ (q_ (g_ (s_ mv_ (z_ (n_ (ift (g_ (s_ (fA 0 fi77_0) (r_ (ld_ 0 sc9) (o_ (O_buildSlice (cs:=[vS line]) underlying25 sz9 ze9 dd_ dd_ kf_ fun b2=>?_))))))))))))
 refine js_ (vG [vI 0,vB true,vL none 0 0,vL (some ⟨b2,0,none⟩) 1 1]) (x_build kf_) (o_ (stG 2 sz48 ?_))
 refine z_ ?_
 refine JX_end0 results26 [blk o 48 [vI 0,vB true,vL none 0 0,vL (some ⟨b2,0,none⟩) 1 1],blk q 38 [vI z],blk b2 9 [vS line]] (fun _ h=>((h.front 3 _ rfl).front 3 _ rfl).keep [T_,T_,T_,F_] rfl) ⟨b2,?_,?_⟩
 ·rfl
 ·rfl
theorem catch_ret (o:Nat) (q:Nat) (cd:Int) (fd:Bool) (chA:OA_) (chN:Nat) (chC:Nat) (lnA:OA_) (lnN:Nat) (lnC:Nat) (z:Int) (w:World) (hg:Give [o,q] w [blk o 48 [vI cd,vB fd,vL chA chN chC,vL lnA lnN lnC],blk q 38 [vI z]]):CallsDIn Fence.wide 0 prog 26 #[pB o 0,pB q 0] (FrameMode.returning) w (fun e9 u9 w9=>u9=FrameMode.returning∧Gives [o,q] w (fun v L=>v=Value.tuple #[]∧L=[blk o 48 [vI cd,vB fd,vL chA chN chC,vL lnA lnN lnC],blk q 38 [vI z]]) e9 w9):=by
 refine calls_RC [o,q] 32 func26 rfl ntmps26 (.inl ⟨rfl,rfl,rfl⟩) rfl rfl [(0,_),(1,_)] rfl rfl dd_ dd_ rfl hg ?_
 refine q_ (g_ (s_ mv_ (s_ (x_assert_nil rfl underlying77 ze77) (s_ mv_ (s_ (ex_ 0) (s_ (ex_ 1) (o_ (al_ ze77 fun b1=>?_))))))))
 refine o_ (stG 0 sz77 ?_)
 refine s_ av_ (z_ (n_ (q_ (q_ (g_ (s_ mv_ (s_ (x_neq_nn rfl underlying20) (s_ mv_ (sh_ rfl (sh_ rfl (jr_ (vB false) (z_ (n_ (iff_ (sk_ (n_ (q_ (g_ ?_))))))))))))))))))
 refine s_ mv_ (s_ mv_ (sh_ rfl (sh_ rfl (sh_ rfl (jr_ (vB false) (z_ (xk_ [0,1,3,4,23] ?_)))))))
 refine n_ (iff_ (q_ (g_ (s_ mv_ (z_ (n_ (iff_ (sk_ ?_))))))))
 refine JX_end0 results26 [blk o 48 [vI cd,vB fd,vL chA chN chC,vL lnA lnN lnC],blk q 38 [vI z]] (fun _ h=>h.keep [F_,T_,T_] rfl) ⟨?_,?_⟩
 ·rfl
 ·rfl
theorem run_ok (s:Nat) (name:Bytes) (parm:Bytes) (rows:List SRow) (rowsA:OA_) (rowsC:Nat) (calls:Nat) (l:List Binding) (lA:OA_) (lC:Nat) (Φ:Int→List Change→LB_→Prop) (Ψ:Bytes→Prop) (w:World) (rowsR:RO [s] w rowsA (rows.flatMap SRow.enc)) (lR:RO [s] w lA (l.flatMap Binding.enc)) (lN:Kp [s] w (okL Binding.ok l)) (hT:Tab [s] w) (hP:∀ (x:Nat) (m:Nat) (w:World) (rowsR:RO [x,m,s] w rowsA (rows.flatMap SRow.enc)) (lR:RO [x,m,s] w lA (l.flatMap Binding.enc)) (lN:Kp [x,m,s] w (okL Binding.ok l)) (hT:Tab [x,m,s] w) (hg:Give [x,m,s] w [x0_ x s parm m,mp vS m ([]:List (Bytes × Value)),sH_ s rowsA rows.length rowsC calls]),Calls prog 27 #[pB x 0,vS name,vL lA l.length lC] w (GivesE [x,m,s] w (fun v L=>∃ cd:Int,∃ ch:List Change,∃ chA:OA_,∃ chC:Nat,∃ ln:LB_,∃ lnA:OA_,∃ lnC:Nat,v=Value.tuple #[]∧L=[xE_ x s parm m [vI cd,vB false,vL chA ch.length chC,vL lnA ln.length lnC],row (.slice chA ch.length chC) 60 5 ch.length (ch.flatMap Change.enc),row (.slice lnA ln.length lnC) 9 1 ln.length (ln.map vS)]∧(Φ cd ch ln)) (fun c L=>∃ line:Bytes,c=R45.pan line∧L=[]∧(Ψ line)))) (hg:Give [s] w [sH_ s rowsA rows.length rowsC calls]):Calls prog 15 #[Value.iface 41 (pB s 0),vS name,vS parm,vL lA l.length lC] w (Gives [s] w fun v L=>∃ cd:Int,∃ fd:Bool,∃ ch:List Change,∃ chA:OA_,∃ chC:Nat,∃ ln:LB_,∃ lnA:OA_,∃ lnC:Nat,v=Value.tuple #[vG [vI cd,vB fd,vL chA ch.length chC,vL lnA ln.length lnC],vI 0]∧L=[row (.slice chA ch.length chC) 60 5 ch.length (ch.flatMap Change.enc),row (.slice lnA ln.length lnC) 9 1 ln.length (ln.map vS)]∧((fd=false∧Φ cd ch ln)∨(fd=true∧cd=0∧ch=[] ∧ ∃ line,ln=[line]∧Ψ line))):=by
 refine calls_JD [s] 25 func15 rfl ntmps15 [(0,_),(1,_),(2,_),(3,_)] rfl rfl hg ?_
 refine q_ (g_ (o_ (al_ ze48 fun b1=>?_)))
 refine o_ (al_ ze38 fun b2=>?_)
 refine z_ (n_ (q_ (g_ (js_ (Value.func (.func 26) #[] #[pB b1 0,pB b2 0]) (x_makeFunc rfl rfl) ?_))))
 refine JO_defer rfl rfl trivial ?_
 refine z_ (n_ (q_ (g_ (s_ mv_ (s_ mv_ (o_ (O_makeMap vS fun b3=>?_)))))))
 refine js_ (vG [Value.iface 41 (pB s 0),vS parm,Value.map (some b3),vI 0,vB false,vL none 0 0,vL none 0 0]) (x_build kf_) (o_ (bxG fun b4=>?_))
 refine s_ av_ (z_ (n_ (q_ (g_ (s_ mv_ (s_ mv_ (s_ mv_ ?_)))))))
 refine JO_callP [b4,b3,s] [x0_ b4 s parm b3,mp vS b3 ([]:List (Bytes × Value)),sH_ s rowsA rows.length rowsC calls] [blk b2 38 [vI 0],blk b1 48 [vI 0,vB false,vL none 0 0,vL none 0 0]] rfl trivial (fun _=>x_call ca27 rfl) (fun _ h=>(((((h.front 3 _ rfl).front 3 _ rfl).front 4 _ rfl).front 4 _ rfl).front 4 _ rfl).keep [T_,T_,T_,T_,T_] rfl) (own_mem rfl) (fun w hS=>hP b4 b3 w (rowsR.on hS (own_mem rfl)) (lR.on hS (own_mem rfl)) (lN.on hS (own_mem rfl)) (hT.on hS (own_mem rfl)) (hS.give (own_in rfl))) ?_ ?_
 ·rintro _ _ ⟨line5,rfl,rfl,hp6⟩
  refine JX_then_pan ?_
  refine JX_door (Lc:=[blk b1 48 [vI 0,vB false,vL none 0 0,vL none 0 0],blk b2 38 [vI 0]]) (Lr:=[]) rfl (.inr ⟨_,rfl,rfl⟩) ca26 (fun _ h=>(h.front 1 _ rfl).keep [T_,T_] rfl) (own_mem rfl) (fun w hS=>(catch_pan (line:=line5) (w:=w) (cd:=0) (fd:=false) (chA:=none) (chN:=0) (chC:=0) (lnA:=none) (lnN:=0) (lnC:=0) (z:=0) (hg:=hS.give (own_in rfl))).mono (fun _ _ _ h=>⟨by rw [h.1];rfl,h.2⟩)) results15 (fun _ _ h=>h) ?_
  rintro _ _ ⟨nb,rfl,rfl⟩
  exact ⟨[vG [vI 0,vB true,vL none 0 0,vL (some ⟨nb,0,none⟩) 1 1],vI 0],(Value.tuple #[vG [vI 0,vB true,vL none 0 0,vL (some ⟨nb,0,none⟩) 1 1],vI 0]),rfl,fun w h=>⟨⟨_,rfl,load_blkN 0 [vI 0,vB true,vL none 0 0,vL (some ⟨nb,0,none⟩) 1 1] h rfl ag48 sz48 rfl⟩,⟨_,rfl,load_blk 1 h rfl sc38 rfl⟩,trivial⟩,[row (.slice none ([]:List Change).length 0) 60 5 ([]:List Change).length (([]:List Change).flatMap Change.enc),row (.slice (some ⟨nb,0,none⟩) [line5].length 1) 9 1 [line5].length ([line5].map vS)],(fun _ h=>((St.torow (cs:=[vS line5]) (h.front 2 _ rfl) 1 1 rfl dd_).nilrow 60 5).keep [T_,T_,F_,F_] rfl),0,true,[],none,0,[line5],(some ⟨nb,0,none⟩),1,rfl,rfl,.inr ⟨rfl,rfl,rfl,line5,rfl,by assumption⟩⟩
 rintro _ _ ⟨cd7,ch8,chA9,chC10,ln11,lnA12,lnC13,rfl,rfl,hf14⟩
 refine z_ (n_ (q_ (g_ (s_ mv_ (s_ (x_nilCheck rfl) (s_ (fA 3 fi82_3) (r_ (ldN 0 [vI cd7,vB false,vL chA9 ch8.length chC10,vL lnA12 ln11.length lnC13] ag48 sz48) (o_ (stG 4 sz48 ?_)))))))))
 refine o_ (st1 3 sz38 ?_)
 refine z_ (xk_ [8,9] ?_)
 refine n_ (rt_ ?_)
 refine JX_door (Lc:=[blk b1 48 [vI cd7,vB false,vL chA9 ch8.length chC10,vL lnA12 ln11.length lnC13],blk b2 38 [vI 0]]) (Lr:=[row (.slice chA9 ch8.length chC10) 60 5 ch8.length (ch8.flatMap Change.enc),row (.slice lnA12 ln11.length lnC13) 9 1 ln11.length (ln11.map vS)]) rfl (.inl ⟨.inl rfl,rfl⟩) ca26 (fun _ h=>((((h.front 2 _ rfl).front 2 _ rfl).front 3 _ rfl).front 4 _ rfl).keep [T_,T_,T_,T_,F_] rfl) (own_mem rfl) (fun w hS=>(catch_ret (w:=w) (cd:=cd7) (fd:=false) (chA:=chA9) (chN:=ch8.length) (chC:=chC10) (lnA:=lnA12) (lnN:=ln11.length) (lnC:=lnC13) (z:=0) (hg:=hS.give (own_in rfl))).mono (fun _ _ _ h=>⟨by rw [h.1];rfl,h.2⟩)) results15 (fun _ _ h=>h) ?_
 rintro _ _ ⟨rfl,rfl⟩
 exact ⟨[vG [vI cd7,vB false,vL chA9 ch8.length chC10,vL lnA12 ln11.length lnC13],vI 0],(Value.tuple #[vG [vI cd7,vB false,vL chA9 ch8.length chC10,vL lnA12 ln11.length lnC13],vI 0]),rfl,fun w h=>⟨⟨_,rfl,load_blkN 0 [vI cd7,vB false,vL chA9 ch8.length chC10,vL lnA12 ln11.length lnC13] h rfl ag48 sz48 rfl⟩,⟨_,rfl,load_blk 1 h rfl sc38 rfl⟩,trivial⟩,[row (.slice chA9 ch8.length chC10) 60 5 ch8.length (ch8.flatMap Change.enc),row (.slice lnA12 ln11.length lnC13) 9 1 ln11.length (ln11.map vS)],(fun _ h=>h.keep [F_,F_,T_,T_] rfl),cd7,false,ch8,chA9,chC10,ln11,lnA12,lnC13,rfl,rfl,.inl ⟨rfl,by assumption⟩⟩
end Go.Proofs.YtggobegaiijhhaaGreatDoor
namespace Go.Proofs.YtggobegaiijhhaaGreatDoor
open Go.GV
namespace R45
def RunR (Φ:Int→List Change→List Bytes→Prop) (Ψ:Prop) (fd:Bool) (cd:Int) (ch:List Change) (ln:List Bytes):Prop:=(fd=false∧Φ cd ch ln)∨(fd=true∧cd=0∧ch=[] ∧ ∃ line,ln=[line]∧Ψ)
theorem RunR.ok {Φ:Int→List Change→List Bytes→Prop} {G:Prop} {fd:Bool} {cd:Int} {ch:List Change} {ln:List Bytes} (h:RunR Φ (¬ G) fd cd ch ln) (hg:G):fd=false∧Φ cd ch ln:=by
  rcases h with h | ⟨_,_,_,_,_,h⟩
  · exact h
  · exact absurd hg h
theorem seq_fresh (n:Bytes) (id:Int):SeqB (freshB n id):=by
  refine ⟨?_,?_⟩
  · show (0:Int)≠2;decide
  · show (0:Int)≠3;decide
theorem aw_okG:GenOk [50,32,65] [freshB OUT 200]:=by
  refine ⟨by decide,rfl,2,[65],by kernel_rfl,seq_fresh _ _,by decide⟩
theorem awG {fd:Bool} {cd:Int} {ch:List Change} {ln:List Bytes} (h:RunR (GenR [50,32,65] [freshB OUT 200]) (¬ GenOk [50,32,65] [freshB OUT 200]) fd cd ch ln):ch.length=2∧(ch.getD 1 default).Record=[65,48,48,48,50]:=by
  obtain ⟨_,_,_,n,t,hp,hw,_⟩:=h.ok aw_okG
  have hp2:parmG [50,32,65]=some (2,[65]):=by kernel_rfl
  rw [hp2] at hp
  injection hp with hp
  injection hp with h1 h2
  subst h1 h2
  have:=hw.2.2 (seq_fresh _ _)
  rw [this]
  exact ⟨by kernel_rfl,by kernel_rfl⟩
theorem awC {A B:Option Addr} {c d:Nat} {fd:Bool} {cd:Int} {ch:List Change} {ln:List Bytes} (h:RunR (CmpR [] [inlineB IN1 [[97],[98]] A c,inlineB IN2 [[97],[99]] B d]) (¬ CmpOk [inlineB IN1 [[97],[98]] A c,inlineB IN2 [[97],[99]] B d]) fd cd ch ln):cd=4∧ln.length=1∧ln.getD 0 []=[100,105,102,102,101,114,101,110,116,32,97,116,32,50]:=by
  obtain ⟨_,_,_,_,h1,h2⟩:=h.ok ⟨by show (0:Int)≤0;decide,by show (0:Int)≤1;decide⟩
  have e1:recV [] (bd [inlineB IN1 [[97],[98]] A c,inlineB IN2 [[97],[99]] B d] IN1)=[[97],[98]]:=rfl
  have e2:recV [] (bd [inlineB IN1 [[97],[98]] A c,inlineB IN2 [[97],[99]] B d] IN2)=[[97],[99]]:=rfl
  rw [e1,e2] at h1 h2
  rw [h1,h2]
  exact ⟨rfl,rfl,by kernel_rfl⟩
theorem lines_all {l:List Binding} {n:Nat} (h:∀ b∈l,b.Lines.length≤n) (i:Nat):(l.getD i default).Lines.length≤n:=by
  by_cases hi:i<l.length
  · exact h _ (getD_mem hi)
  · rw [List.getD_eq_getElem?_getD,List.getElem?_eq_none (by omega)];exact Nat.zero_le _
theorem lines_each {l:List Binding} {n:Nat} (h:∀ b∈l,∀ s∈b.Lines,s.length≤n) (i j:Nat):((l.getD i default).Lines.getD j []).length≤n:=by
  by_cases hi:i<l.length
  · by_cases hj:j<(l.getD i default).Lines.length
    · exact h _ (getD_mem hi) _ (getD_mem hj)
    · rw [List.getD_eq_getElem?_getD,List.getElem?_eq_none (by omega)];exact Nat.zero_le _
  · rw [List.getD_eq_getElem?_getD (l:=l),List.getElem?_eq_none (by omega)]
    show (([]:List Bytes).getD j []).length≤n
    simp
theorem few_use {z:Bool} {rows:List SRow} {l:List Binding} (h:z=true→FewP rows l) (hz:z=true):(rows.length≤30 ∧ ∀ x∈rows,x.Key.length≤60∧x.Record.length≤300)∧l.length≤4 ∧ ∀ i,FewB (l.getD i default):=by
  obtain ⟨h1,h2,h3⟩:=h hz
  refine ⟨⟨by have:=h1.1;omega,fun x hx=>?_⟩,h2,h3⟩
  obtain ⟨i,hi,rfl⟩:=mem_getD (d:=default) hx
  exact h1.2 i
theorem dist_use {rows out:List SRow} (h:DistJ rows rows.length out):Dist out∧out.length≤rows.length ∧ ∀ x∈out,x∈rows:=⟨h.2.2,h.1,fun _ hx=>h.mem hx⟩
theorem aw_rec {o:List Bytes} {A:Option Addr} {c:Nat} (h:o=recV [] (inlineB [73,78] [[97]] A c)):o.length=1:=by rw [h];rfl
theorem dist_nil:Dist []:=List.Pairwise.nil
end R45
end Go.Proofs.YtggobegaiijhhaaGreatDoor
namespace Go.Proofs.YtggobegaiijhhaaGreatDoor
open Go.GV Go.Proofs.Tryz Ty
open Go.GV.Ent (blk row mp)
theorem run_generate (s:Nat) (parm:Bytes) (rows:List SRow) (rowsA:OA_) (rowsC:Nat) (calls:Nat) (l:List Binding) (lA:OA_) (lC:Nat) (w:World) (rowsR:RO [s] w rowsA (rows.flatMap SRow.enc)) (lR:RO [s] w lA (l.flatMap Binding.enc)) (lN:Kp [s] w (okL Binding.ok l)) (hT:Tab [s] w) (q0:rows.length≤1000) (q1:calls≤890000) (q2:R45.Dist rows) (q3:∀ x∈rows,x.Key.length≤1000000) (q4:∀ x∈rows,x.Record.length≤1000000) (q5:parm.length≤1000) (q6:l.length≤1000) (q7:∀ i,(l.getD i default).Lines.length≤1000) (q8:∀ i j,((l.getD i default).Lines.getD j []).length≤1000000) (hg:Give [s] w [sH_ s rowsA rows.length rowsC calls]):Calls prog 15 #[Value.iface 41 (pB s 0),vS [103,101,110,101,114,97,116,101],vS parm,vL lA l.length lC] w (Gives [s] w fun v L=>∃ cd:Int,∃ fd:Bool,∃ ch:List Change,∃ chA:OA_,∃ chC:Nat,∃ ln:LB_,∃ lnA:OA_,∃ lnC:Nat,v=Value.tuple #[vG [vI cd,vB fd,vL chA ch.length chC,vL lnA ln.length lnC],vI 0]∧L=[row (.slice chA ch.length chC) 60 5 ch.length (ch.flatMap Change.enc),row (.slice lnA ln.length lnC) 9 1 ln.length (ln.map vS)]∧(R45.RunR (R45.GenR parm l) (¬ R45.GenOk parm l) fd cd ch ln)):=
 run_ok (s:=s) (name:=[103,101,110,101,114,97,116,101]) (parm:=parm) (rows:=rows) (rowsA:=rowsA) (rowsC:=rowsC) (calls:=calls) (l:=l) (lA:=lA) (lC:=lC) (Φ:=R45.GenR parm l) (Ψ:=fun _=>¬ R45.GenOk parm l) (w:=w) (rowsR:=rowsR) (lR:=lR) (lN:=lN) (hT:=hT) (hP:=fun x m w rowsR lR lN hT hg=>perf_generate (x:=x) (s:=s) (parm:=parm) (m:=m) (rows:=rows) (rowsA:=rowsA) (rowsC:=rowsC) (calls:=calls) (l:=l) (lA:=lA) (lC:=lC) (w:=w) rowsR lR lN hT q0 q1 q2 q3 q4 q5 q6 q7 q8 hg) (hg:=hg)
theorem run_compare (s:Nat) (parm:Bytes) (rows:List SRow) (rowsA:OA_) (rowsC:Nat) (calls:Nat) (l:List Binding) (lA:OA_) (lC:Nat) (w:World) (rowsR:RO [s] w rowsA (rows.flatMap SRow.enc)) (lR:RO [s] w lA (l.flatMap Binding.enc)) (lN:Kp [s] w (okL Binding.ok l)) (hT:Tab [s] w) (q0:rows.length≤1000) (q1:calls≤890000) (q2:R45.Dist rows) (q3:∀ x∈rows,x.Key.length≤1000000) (q4:parm.length≤1000) (q5:l.length≤1000) (q6:∀ i,(l.getD i default).Lines.length≤1000) (hg:Give [s] w [sH_ s rowsA rows.length rowsC calls]):Calls prog 15 #[Value.iface 41 (pB s 0),vS [99,111,109,112,97,114,101],vS parm,vL lA l.length lC] w (Gives [s] w fun v L=>∃ cd:Int,∃ fd:Bool,∃ ch:List Change,∃ chA:OA_,∃ chC:Nat,∃ ln:LB_,∃ lnA:OA_,∃ lnC:Nat,v=Value.tuple #[vG [vI cd,vB fd,vL chA ch.length chC,vL lnA ln.length lnC],vI 0]∧L=[row (.slice chA ch.length chC) 60 5 ch.length (ch.flatMap Change.enc),row (.slice lnA ln.length lnC) 9 1 ln.length (ln.map vS)]∧(R45.RunR (R45.CmpR rows l) (¬ R45.CmpOk l) fd cd ch ln)):=
 run_ok (s:=s) (name:=[99,111,109,112,97,114,101]) (parm:=parm) (rows:=rows) (rowsA:=rowsA) (rowsC:=rowsC) (calls:=calls) (l:=l) (lA:=lA) (lC:=lC) (Φ:=R45.CmpR rows l) (Ψ:=fun _=>¬ R45.CmpOk l) (w:=w) (rowsR:=rowsR) (lR:=lR) (lN:=lN) (hT:=hT) (hP:=fun x m w rowsR lR lN hT hg=>perf_compare (x:=x) (s:=s) (parm:=parm) (m:=m) (rows:=rows) (rowsA:=rowsA) (rowsC:=rowsC) (calls:=calls) (l:=l) (lA:=lA) (lC:=lC) (w:=w) rowsR lR lN hT q0 q1 q2 q3 q4 q5 q6 hg) (hg:=hg)
end Go.Proofs.YtggobegaiijhhaaGreatDoor
namespace Go.Proofs
open Go.Shelf
def Tryz.keysA_ren:Go.Shelf.Ren:=⟨fun | 7=>31 | 10=>42 | n=>n,fun | 23=>89 | 26=>9 | 3=>90 | 28=>87 | 0=>0 | 27=>86 | 33=>106 | 4=>4 | n=>n,fun | n=>n⟩
theorem Tryz.keysA:Go.Proofs.SlLaysZ.n7 Tryz.prog Tryz.keysA_ren:={
  mixed:=by kernel_rfl
  f7:=⟨Tryz.f31.name,by decide,Tryz.func31.trans (congrArg some (by kernel_rfl))⟩
  f10:=⟨Tryz.f42.name,by decide,Tryz.func42.trans (congrArg some (by kernel_rfl))⟩
  t0:=Tryz.underlying0
  a0:=Tryz.isAgg0
  z0:=Tryz.sizeOf0
  v0:=Tryz.zeroValue0
  t4:=Tryz.underlying4
  a4:=Tryz.isAgg4
  z4:=Tryz.sizeOf4
  v4:=Tryz.zeroValue4
  t23:=Tryz.underlying89
  a23:=Tryz.isAgg89
  z23:=Tryz.sizeOf89
  v23:=Tryz.zeroValue89
  t26:=Tryz.underlying9
  a26:=Tryz.isAgg9
  z26:=Tryz.sizeOf9
  v26:=Tryz.zeroValue9
  t27:=Tryz.underlying86
  a27:=Tryz.isAgg86
  z27:=Tryz.sizeOf86
  v27:=Tryz.zeroValue86
  t28:=Tryz.underlying87
  a28:=Tryz.isAgg87
  z28:=Tryz.sizeOf87
  v28:=Tryz.zeroValue87
  t33:=Tryz.underlying106
  a33:=Tryz.isAgg106
  z33:=Tryz.sizeOf106
  v33:=Tryz.zeroValue106 }
def Tryz.sortedA_ren:Go.Shelf.Ren:=⟨fun | 6=>30 | 8=>40 | 9=>41 | 11=>79 | 13=>81 | 12=>80 | 23=>125 | 24=>110 | 14=>116 | 15=>117 | 16=>118 | 17=>119 | 18=>120 | 19=>121 | 20=>122 | 21=>123 | 22=>124 | 25=>149 | 26=>150 | 27=>151 | 28=>152 | 29=>153 | 30=>154 | 31=>171 | n=>n,fun | 26=>9 | 28=>87 | 24=>25 | 0=>0 | 3=>3 | 37=>122 | 48=>158 | 50=>114 | 4=>4 | 40=>165 | 39=>164 | 45=>108 | 5=>5 | 9=>9 | 51=>195 | 55=>199 | 57=>229 | 58=>230 | 33=>106 | n=>n,fun | n=>n⟩
theorem Tryz.sortedA:Go.Proofs.SlLaysZ.n6 Tryz.prog Tryz.sortedA_ren:={
  mixed:=by kernel_rfl
  f6:=⟨Tryz.f30.name,by decide,Tryz.func30.trans (congrArg some (by kernel_rfl))⟩
  f8:=⟨Tryz.f40.name,by decide,Tryz.func40.trans (congrArg some (by kernel_rfl))⟩
  f11:=⟨Tryz.f79.name,by decide,Tryz.func79.trans (congrArg some (by kernel_rfl))⟩
  t0:=Tryz.underlying0
  a0:=Tryz.isAgg0
  z0:=Tryz.sizeOf0
  v0:=Tryz.zeroValue0
  t24:=Tryz.underlying25
  a24:=Tryz.isAgg25
  z24:=Tryz.sizeOf25
  v24:=Tryz.zeroValue25
  t26:=Tryz.underlying9
  a26:=Tryz.isAgg9
  z26:=Tryz.sizeOf9
  v26:=Tryz.zeroValue9
  t28:=Tryz.underlying87
  a28:=Tryz.isAgg87
  z28:=Tryz.sizeOf87
  v28:=Tryz.zeroValue87
  i26:=by kernel_rfl }
def Tryz.sortA_ren:Go.Shelf.Ren:=⟨fun | 6=>41 | 8=>81 | 9=>80 | 19=>125 | 20=>110 | 21=>116 | 22=>117 | 23=>118 | 24=>119 | 25=>120 | 26=>121 | 27=>122 | 28=>123 | 29=>124 | 36=>149 | 31=>150 | 32=>151 | 37=>152 | 38=>153 | 39=>154 | 41=>171 | n=>n,fun | 27=>25 | 29=>9 | 3=>3 | 32=>122 | 26=>25 | 0=>0 | 44=>158 | 46=>114 | 4=>4 | 36=>165 | 35=>164 | 41=>108 | 5=>5 | 9=>9 | 53=>195 | 57=>199 | 63=>229 | 64=>230 | n=>n,fun | n=>n⟩
theorem Tryz.sortA:Go.Proofs.SlLaysM.n6 Tryz.prog Tryz.sortA_ren:={
  mixed:=by kernel_rfl
  f6:=⟨Tryz.f41.name,by decide,Tryz.func41.trans (congrArg some (by kernel_rfl))⟩
  f8:=Tryz.func81.trans (congrArg some (by kernel_rfl))
  f9:=⟨Tryz.f80.name,by decide,Tryz.func80.trans (congrArg some (by kernel_rfl))⟩
  f19:=Tryz.func125.trans (congrArg some (by kernel_rfl))
  f20:=Tryz.func110.trans (congrArg some (by kernel_rfl))
  f21:=⟨Tryz.f116.name,by decide,Tryz.func116.trans (congrArg some (by kernel_rfl))⟩
  f22:=⟨Tryz.f117.name,by decide,Tryz.func117.trans (congrArg some (by kernel_rfl))⟩
  f23:=⟨Tryz.f118.name,by decide,Tryz.func118.trans (congrArg some (by kernel_rfl))⟩
  f24:=⟨Tryz.f119.name,by decide,Tryz.func119.trans (congrArg some (by kernel_rfl))⟩
  f25:=⟨Tryz.f120.name,by decide,Tryz.func120.trans (congrArg some (by kernel_rfl))⟩
  f26:=⟨Tryz.f121.name,by decide,Tryz.func121.trans (congrArg some (by kernel_rfl))⟩
  f27:=⟨Tryz.f122.name,by decide,Tryz.func122.trans (congrArg some (by kernel_rfl))⟩
  f28:=⟨Tryz.f123.name,by decide,Tryz.func123.trans (congrArg some (by kernel_rfl))⟩
  f29:=⟨Tryz.f124.name,by decide,Tryz.func124.trans (congrArg some (by kernel_rfl))⟩
  f31:=Tryz.func150.trans (congrArg some (by kernel_rfl))
  f32:=Tryz.func151.trans (congrArg some (by kernel_rfl))
  f36:=⟨Tryz.f149.name,by decide,Tryz.func149.trans (congrArg some (by kernel_rfl))⟩
  f37:=⟨Tryz.f152.name,by decide,Tryz.func152.trans (congrArg some (by kernel_rfl))⟩
  f38:=⟨Tryz.f153.name,by decide,Tryz.func153.trans (congrArg some (by kernel_rfl))⟩
  f39:=⟨Tryz.f154.name,by decide,Tryz.func154.trans (congrArg some (by kernel_rfl))⟩
  f41:=⟨Tryz.f171.name,by decide,Tryz.func171.trans (congrArg some (by kernel_rfl))⟩
  t0:=Tryz.underlying0
  a0:=Tryz.isAgg0
  z0:=Tryz.sizeOf0
  v0:=Tryz.zeroValue0
  t3:=Tryz.underlying3
  a3:=Tryz.isAgg3
  z3:=Tryz.sizeOf3
  v3:=Tryz.zeroValue3
  t4:=Tryz.underlying4
  a4:=Tryz.isAgg4
  z4:=Tryz.sizeOf4
  v4:=Tryz.zeroValue4
  t5:=Tryz.underlying5
  a5:=Tryz.isAgg5
  z5:=Tryz.sizeOf5
  v5:=Tryz.zeroValue5
  t9:=Tryz.underlying9
  a9:=Tryz.isAgg9
  z9:=Tryz.sizeOf9
  v9:=Tryz.zeroValue9
  t26:=Tryz.underlying25
  a26:=Tryz.isAgg25
  z26:=Tryz.sizeOf25
  v26:=Tryz.zeroValue25
  t27:=Tryz.underlying25
  a27:=Tryz.isAgg25
  z27:=Tryz.sizeOf25
  v27:=Tryz.zeroValue25
  t29:=Tryz.underlying9
  a29:=Tryz.isAgg9
  z29:=Tryz.sizeOf9
  v29:=Tryz.zeroValue9
  t32:=Tryz.underlying122
  a32:=Tryz.isAgg122
  z32:=Tryz.sizeOf122
  v32:=Tryz.zeroValue122
  t35:=Tryz.underlying164
  a35:=Tryz.isAgg164
  z35:=Tryz.sizeOf164
  v35:=Tryz.zeroValue164
  t36:=Tryz.underlying165
  a36:=Tryz.isAgg165
  z36:=Tryz.sizeOf165
  v36:=Tryz.zeroValue165
  t41:=Tryz.underlying108
  a41:=Tryz.isAgg108
  z41:=Tryz.sizeOf108
  v41:=Tryz.zeroValue108
  t44:=Tryz.underlying158
  a44:=Tryz.isAgg158
  z44:=Tryz.sizeOf158
  v44:=Tryz.zeroValue158
  t46:=Tryz.underlying114
  a46:=Tryz.isAgg114
  z46:=Tryz.sizeOf114
  v46:=Tryz.zeroValue114
  t53:=Tryz.underlying195
  a53:=Tryz.isAgg195
  z53:=Tryz.sizeOf195
  v53:=Tryz.zeroValue195
  t57:=Tryz.underlying199
  a57:=Tryz.isAgg199
  z57:=Tryz.sizeOf199
  v57:=Tryz.zeroValue199
  t63:=Tryz.underlying229
  a63:=Tryz.isAgg229
  z63:=Tryz.sizeOf229
  v63:=Tryz.zeroValue229
  t64:=Tryz.underlying230
  a64:=Tryz.isAgg230
  z64:=Tryz.sizeOf230
  v64:=Tryz.zeroValue230 }
end Go.Proofs
namespace Go.Proofs.YtggobegaiijhhaaGreatDoor
open Go.GV Go.RowKit Go.Maps Go.Sort Go.Shelf Go.MapKept
def anyR:Value→Option (DataW Unit × List MemPlace):=fun _=>some (.nil,[])
theorem sortsA (m:Nat):AnyZ.SortsIn Tryz.prog Tryz.sortedA_ren Fence.wide m:=
  ⟨fun blk off cap ss W hH hblk hsz=>callsIn_wide.2 (AnyM.slices_Sort_string Tryz.sortA blk off cap ss W hH hblk hsz),
   fun p cap W=>callsIn_wide.2 (AnyM.slices_Sort_string_none Tryz.sortA p cap W)⟩
theorem keys_ok (m:Nat) (w:World):Calls Tryz.prog 31 #[Value.map (some m)] w (Gives [] w fun v L=>∃ p:Nat,v=Value.func (.func 42) #[] #[Value.pointer (some ⟨p,0,none⟩)]∧L=[Ent.blk p 89 [Value.map (some m)]]):=by
  refine (callsIn_wide (n:=6)).1 ?_
  refine (AnyZ.keys_in Tryz.keysA Fence.wide 6 trivial rfl (some m) w).mono ?_
  rintro e w' ⟨rfl,rfl⟩
  refine ⟨_,_,rfl,⟨w.heap.size,rfl,rfl⟩,?_⟩
  exact (St.nil (Fr.refl [] w)).alloc _ _ rfl ⟨rfl,.inl (Nat.le_refl _)⟩
theorem fit_of {es:Array MapEntry} {clock:Nat} {l:List (Bytes × Value)} (h:Holds' vS es l) (hb:Born es clock) (hn:(l.map (·.1)).Nodup) (hr:∀ p∈l,p.1.length≤maxLen) (hl:l.length≤maxLen) :
    WideElems.Fit Tryz.prog 9 anyR es clock ∧ ∀ x∈es.toList,∃ a:Bytes,x.key=vS a∧WideElems.rg Tryz.prog 9 anyR x=(Lit.string a,DataW.nil):=by
  have hk:∀ x∈es.toList,∃ p∈l,x.key=vS p.1:=fun x hx=>by
    have:(x.key,x.val)∈l.map (fun p=>(vS p.1,p.2)):=by rw [← h];exact List.mem_map.2 ⟨x,hx,rfl⟩
    obtain ⟨p,hp,e⟩:=List.mem_map.1 this
    simp only [Prod.mk.injEq] at e
    exact ⟨p,hp,e.1.symm⟩
  have hrd:∀ x∈es.toList,∃ a:Bytes,x.key=vS a∧WideElems.rd Tryz.prog 9 anyR x=some (Lit.string a,DataW.nil):=fun x hx=>by
    obtain ⟨p,hp,e⟩:=hk x hx
    refine ⟨p.1,e,?_⟩
    unfold WideElems.rd
    rw [e,show keyOf Tryz.prog 9 (vS p.1)=some (Lit.string p.1) from (Go.WideMaps.keyOf_string_mk (P:=Tryz.prog) (k:=9) Tryz.underlying9 (s:=⟨p.1.toArray⟩) (by have:=hr p hp;show p.1.toArray.size≤maxLen;simpa using this)).trans (by simp)]
    rfl
  have hkeys:es.toList.map (·.key)=(l.map (·.1)).map vS:=by
    have:=congrArg (List.map (·.1)) h
    simpa [List.map_map,Function.comp_def] using this
  have hsz:es.size=l.length:=by
    have:=congrArg List.length h
    simpa using this
  have hinj:∀ a b:Bytes,vS a=vS b→a=b:=fun a b e=>by
    have e2:(⟨a.toArray⟩:ByteArray)=⟨b.toArray⟩:=by simpa [vS] using e
    have:=congrArg (fun x:ByteArray=>x.data.toList) e2
    simpa using this
  refine ⟨⟨by omega,⟨hb.2,hb.1,?_⟩,fun x hx=>?_⟩,fun x hx=>?_⟩
  · rw [hkeys]
    exact List.Pairwise.map _ (fun a b hab e=>hab (hinj _ _ e)) hn
  · obtain ⟨a,_,e⟩:=hrd x hx
    exact ⟨_,e⟩
  · obtain ⟨a,e1,e⟩:=hrd x hx
    exact ⟨a,e1,by unfold WideElems.rg;rw [e];rfl⟩
theorem sorted_ok (m p:Nat) (l:List (Bytes × Value)) (w:World) (hn:(l.map (·.1)).Nodup) (hr:∀ k∈l.map (·.1),k.length≤maxLen) (hl:(l.map (·.1)).length≤1000000000)
    (hg:Give [m,p] w [Ent.mp vS m l,Ent.blk p 89 [Value.map (some m)]]) :
    Calls Tryz.prog 30 #[Value.func (.func 42) #[] #[Value.pointer (some ⟨p,0,none⟩)]] w (Gives [m,p] w fun v L=>∃ (A:Option Addr) (c:Nat) (ss:List Bytes),v=Value.slice A ss.length c∧L=[Ent.mp vS m l,Ent.blk p 89 [Value.map (some m)],Ent.row (.slice A ss.length c) 9 1 ss.length (ss.map vS)]∧ss.length=l.length):=by
  obtain ⟨es,clock,hb,hes,hborn⟩:=mp_at (hg.hold (Ent.mp vS m l) (by simp))
  have hp:=hg.hold (Ent.blk p 89 [Value.map (some m)]) (by simp)
  rw [List.length_map] at hl
  have hl':l.length≤maxLen:=Nat.le_trans hl (by decide)
  have hr:∀ x∈l,x.1.length≤maxLen:=fun x hx=>hr _ (List.mem_map.2 ⟨x,hx,rfl⟩)
  obtain ⟨F,_⟩:=fit_of hes hborn hn hr hl'
  generalize hD:DataW.map ((es.toList.map (WideElems.rg Tryz.prog 9 anyR)).foldr DataW.insert [])=D0
  have hsz:es.size=l.length:=by
    have:=congrArg List.length hes
    simpa using this
  have hown:w.ownsMap Tryz.prog 9 anyR m es.size D0:=⟨es,clock,hb,F,Nat.le_refl _,hD.symm⟩
  have hsize:Maps.size D0=l.length:=by
    rw [← hD]
    show ((es.toList.map (WideElems.rg Tryz.prog 9 anyR)).foldr DataW.insert []).length=_
    rw [(WideShapes.sorted_perm _).length_eq,List.length_map,Array.length_toList,hsz]
  have hkl:(strKeys D0).length=l.length:=by
    rw [← hD]
    show (((es.toList.map (WideElems.rg Tryz.prog 9 anyR)).foldr DataW.insert []).map _).length=_
    rw [List.length_map,(WideShapes.sorted_perm _).length_eq,List.length_map,Array.length_toList,hsz]
  have hpb:=hp.1
  have hpc:w.cell? ⟨p,0,none⟩=some (.map (some m)):=by
    obtain ⟨h1,_⟩:=blk_at hp
    simp [World.cell?,h1]
  have hplt:p<w.heap.size:=hp.2 p rfl
  have hmax:Maps.size D0≤maxLen:=by rw [hsize];exact hl'
  have hseq:SeqGives Fence.wide 2 Tryz.prog 42 #[.pointer (some ⟨p,0,none⟩)] encStr (fun ss=>ss.Perm (strKeys D0)) (Maps.size D0) w:=
    AnyZ.keys_gives (ρ:=Tryz.keysA_ren) { Tryz.keysA with } Fence.wide _ trivial rfl (by omega) p m es.size D0 w hplt hpc hown
  have cS:=AnyZ.sorted_in Tryz.sortedA Fence.wide 5 trivial trivial trivial trivial rfl (by omega) (sortsA _) (enters_of Tryz.func41 (by kernel_rfl) rfl) 42 #[.pointer (some ⟨p,0,none⟩)] trivial (enters_of Tryz.func42 (by kernel_rfl) rfl) _ _ hmax (by rw [hsize];omega) w hseq
  refine ((callsIn_wide (n:=5)).1 cS).mono ?_
  rintro e w' ⟨v,ss,rfl,hS,hrow,hnil,hbel⟩
  have hlen:ss.length=(ss.mergeSort fun x y=>decide (x≤y)).length:=(List.length_mergeSort ss).symm
  have hln:(ss.mergeSort fun x y=>decide (x≤y)).length=l.length:=by rw [← hlen,hS.length_eq,hkl]
  generalize (ss.mergeSort fun x y=>decide (x≤y))=ys at hrow hlen hln
  rw [hlen] at hrow
  have hrow:w'.ownsRow w.heap.size 9 1 v ys.length (ys.map vS):=hrow
  have hfr:Fr [] w w':=Fr.of_below hbel
  have hst:St [m,p] w w' [Ent.mp vS m l,Ent.blk p 89 [Value.map (some m)]]:=hg.start.step hfr
  have hrat:=owns_row hrow
  have hown2:∀ b,(Ent.row v 9 1 ys.length (ys.map vS)).own=some b→w.heap.size≤b:=fun b hb=>(hrow.lt b hb).1
  obtain ⟨A,c,hv⟩:∃ (A:Option Addr) (c:Nat),v=Value.slice A ys.length c:=by
    rcases hrow.2 with h2 | ⟨g,cap,cur,rfl,_⟩
    · exact ⟨none,0,by rw [h2.1,h2.2]⟩
    · exact ⟨_,_,rfl⟩
  subst hv
  refine ⟨_,_,rfl,⟨A,c,ys,rfl,rfl,hln⟩,hst.fr,?_,?_,?_⟩
  · intro x hx
    simp only [List.mem_cons,List.not_mem_nil,or_false] at hx
    rcases hx with rfl | rfl | rfl
    · exact hst.hold _ (by simp)
    · exact hst.hold _ (by simp)
    · exact hrat
  · have hd:=hst.dis
    refine List.pairwise_cons.2 ⟨fun y hy=>?_,List.pairwise_cons.2 ⟨fun y hy=>?_,List.pairwise_singleton _ _⟩⟩
    · simp only [List.mem_cons,List.not_mem_nil,or_false] at hy
      rcases hy with rfl | rfl
      · exact (List.pairwise_cons.1 hd).1 _ (by simp)
      · intro b hb hb2
        have h1:=hown2 b hb2
        have h3:=(hg.hold (Ent.mp vS m l) (by simp)).2 b hb
        omega
    · simp only [List.mem_cons,List.not_mem_nil,or_false] at hy
      subst hy
      intro b hb hb2
      have h1:=hown2 b hb2
      have h3:=hp.2 b hb
      omega
  · intro x hx b hb
    simp only [List.mem_cons,List.not_mem_nil,or_false] at hx
    rcases hx with rfl | rfl | rfl
    · exact .inl (hg.own _ (by simp) b hb)
    · exact .inl (hg.own _ (by simp) b hb)
    · exact .inr (hown2 b hb)
end Go.Proofs.YtggobegaiijhhaaGreatDoor
