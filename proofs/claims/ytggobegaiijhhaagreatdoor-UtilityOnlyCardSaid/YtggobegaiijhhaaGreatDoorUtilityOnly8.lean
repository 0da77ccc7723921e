/- Ad45, Tc45 in one text. -/
import Derived.Test.YtggobegaiijhhaaGreatDoorUtilityOnly7
import Derived.Lib.AppendIntMem
import Derived.Lib.SmallJoins
import Derived.Test.YtggobegaiijhhaaGreatDoorRows
import Derived.LaidMore
import Derived.Stop.Joined
import Derived.Lib.LaidTab
import Derived.Shelf.Vars
import Derived.Handed
import Derived.Lay
set_option linter.unusedVariables false
set_option linter.unusedSimpArgs false
namespace Go.Proofs.YtggobegaiijhhaaGreatDoor
open Go.GV Go.RowKit Go.Op
def TabP (S:List Nat) (w:World):Prop:=1∉S∧1<w.heap.size ∧ ∃ t f,w.heap[1]? = some (.cells (Lib.pow10Tab.map fun z=>Value.int .u64 z).toArray t f)
theorem TabP.on {S Sc:List Nat} {w0 w:World} {Lc Lr:List Ent} (h:TabP S w0) (hS:St S w0 w (Lc++Lr)) (hSc:∀ b∈Sc,∃ e∈Lc,e.own=some b):TabP Sc w:=by
  obtain ⟨h1,h2,t,f,h3⟩:=h
  refine ⟨fun hc=>?_,Nat.lt_of_lt_of_le h2 hS.fr.size,t,f,(hS.fr.block _ h2 h1).trans h3⟩
  obtain ⟨e,he,ho⟩:=hSc _ hc
  rcases hS.own e (List.mem_append_left _ he) _ ho with h4 | h4
  · exact h1 h4
  · omega
def IsIfc (v:Value):Prop:=v = .nilIface ∨ ∃ te pe,v = .iface te pe
structure Tab (S:List Nat) (w:World):Prop where
  pow:TabP S w
  mx:∃ m,RO S w (some ⟨0,0,none⟩) [vI m]
  es:∃ v,IsIfc v∧RO S w (some ⟨4,0,none⟩) [v]
  er:∃ v,IsIfc v∧RO S w (some ⟨5,0,none⟩) [v]
theorem Tab.on {S Sc:List Nat} {w0 w:World} {Lc Lr:List Ent} (h:Tab S w0) (hS:St S w0 w (Lc++Lr)) (hSc:∀ b∈Sc,∃ e∈Lc,e.own=some b):Tab Sc w:=
  ⟨h.pow.on hS hSc,h.mx.imp fun _ k=>k.on hS hSc,h.es.imp fun _ k=>⟨k.1,k.2.on hS hSc⟩,h.er.imp fun _ k=>⟨k.1,k.2.on hS hSc⟩⟩
theorem Tab.again {S:List Nat} {w0 w:World} {L:List Ent} (h:Tab S w0) (hS:St S w0 w L):Tab (Lown L) w:=
  h.on (Lc:=L) (Lr:=[]) (by rw [List.append_nil];exact hS) lown_mem
theorem cell_of {S:List Nat} {w:World} {b:Nat} {v:Value} (h:RO S w (some ⟨b,0,none⟩) [v]):w.cell? ⟨b,0,none⟩=some v:=h.cell (Fr.refl S w) (j:=0) rfl
section
variable {P:Program} {E:Env} {w:World} {x y:Operand} {dst:Option Nat} {t t' ty:TypeId} {pos:String} {af:Array Edge} {g:Option (Nat × Bool)}
def errV (ok:Bool) (N:Nat):Value:=match ok with
  | true=>.nilIface
  | false=>.iface 204 (.pointer (some ⟨N,0,none⟩))
theorem run_eq_nn {m:Array (String × TypeId)} (ht:P.underlying t=some (.interface m)):(Op.equal t .nilIface .nilIface).run P w = .ok true w:=by
  show Sem.run P (Op.equalIn Op.maxDepth t .nilIface .nilIface) w=_
  have hd:Op.maxDepth=(Op.maxDepth-1)+1:=by decide
  rw [hd]
  unfold Op.equalIn
  rw [Sem.run_bind,run_underlying ht];rfl
theorem run_eq_in {m:Array (String × TypeId)} {a:TypeId} {v:Value} (ht:P.underlying t=some (.interface m)):(Op.equal t (.iface a v) .nilIface).run P w = .ok false w:=by
  show Sem.run P (Op.equalIn Op.maxDepth t (.iface a v) .nilIface) w=_
  have hd:Op.maxDepth=(Op.maxDepth-1)+1:=by decide
  rw [hd]
  unfold Op.equalIn
  rw [Sem.run_bind,run_underlying ht];rfl
theorem x_eql_err {m:Array (String × TypeId)} {b:Bool} {N:Nat} (hx:ev E x=errV b N) (ht:P.underlying t=some (.interface m)):(execOp (ev E) ⟨dst,.binOp .eql t x (.const .nilIface) t',ty,pos,af,g⟩).run P w = .ok (.value (vB b)) w:=by
  cases b with
  | true =>
    have hx':ev E x = .nilIface:=hx
    have hb:(binOp .eql t .nilIface .nilIface).run P w = .ok (vB true) w:=by
      show Sem.run P (do pure (Value.bool (← Op.equal t .nilIface .nilIface))) w=_
      rw [Sem.run_bind,run_eq_nn ht];rfl
    have hg:eqGuard .eql t x (.const .nilIface) .nilIface .nilIface=pure ():=by cases x <;> rfl
    simp only [execOp,hx']
    show Sem.run P (do let v ← (do eqGuard .eql t x (.const .nilIface) .nilIface .nilIface;binOp .eql t .nilIface .nilIface);pure (Next.value v)) w=_
    rw [hg]
    show Sem.run P (do let v ← binOp .eql t .nilIface .nilIface;pure (Next.value v)) w=_
    rw [Sem.run_bind,hb];rfl
  | false =>
    have hx':ev E x = .iface 204 (.pointer (some ⟨N,0,none⟩)):=hx
    have hb:(binOp .eql t (.iface 204 (.pointer (some ⟨N,0,none⟩))) .nilIface).run P w = .ok (vB false) w:=by
      show Sem.run P (do pure (Value.bool (← Op.equal t (.iface 204 (.pointer (some ⟨N,0,none⟩))) .nilIface))) w=_
      rw [Sem.run_bind,run_eq_in ht];rfl
    simp only [execOp,hx']
    show Sem.run P (do let v ← binOp .eql t (.iface 204 (.pointer (some ⟨N,0,none⟩))) .nilIface;pure (Next.value v)) w=_
    rw [Sem.run_bind,hb];rfl
end
theorem itoa_ok (n:Int) (w:World) (hT:Tab [] w) (q0:0≤n) (q1:n≤9223372036854775807):Calls Tryz.prog 19 #[vI n] w (Gives [] w fun v L=>v=vS (Lib.decDigits n.toNat)∧L=[]):=by
  obtain ⟨h1,h2,t,f,h3⟩:=hT.pow
  have htab:Lib.TabIs Tryz.prog w "internal/strconv.uint64pow10" .u64 Lib.pow10Tab:=by
    have hg:Tryz.prog.globalNamed "internal/strconv.uint64pow10" = some 1:=by kernel_rfl
    unfold Lib.TabIs World.var?
    rw [hg]
    simp only [Option.bind_some,h3]
  refine (Tryz.strconv_Itoa n (by omega) q1 w htab).mono ?_
  rintro e w' ⟨rfl,k,os,rfl⟩
  refine ⟨_,_,rfl,⟨?_,rfl⟩,St.nil ?_⟩
  · rw [Lib.itoa,if_neg (by omega)]
  · exact Fr.of_below (Lib.below_grow _ _ (Nat.le_refl _) k os)
theorem atoi_ok (s:Bytes) (w:World) (hT:Tab [] w) (q0:s.length≤140737488355328):Calls Tryz.prog 82 #[vS s] w (Gives [] w fun v L=>∃ (n:Int) (er:Bool) (N:Nat),v=Value.tuple #[vI n,errV er N]∧L=[]∧R44.AtoiJ s n er):=by
  obtain ⟨v2,hv2,hr2⟩:=hT.es
  obtain ⟨v3,hv3,hr3⟩:=hT.er
  have hsz:(⟨s.toArray⟩:ByteArray).size=s.length:=by show s.toArray.size=_;simp
  cases ha:Lib.atoiAll s with
  | ok n =>
    refine (Tryz.strconv_Atoi_ok ⟨s.toArray⟩ (by rw [hsz];omega) n ha w).mono ?_
    rintro e w' ⟨rfl,hw⟩
    refine ⟨_,_,rfl,⟨n,true,0,rfl,rfl,fun _=>ha,fun h=>(by cases h),?_⟩,St.nil ?_⟩
    · have:=Lib.atoiAll_bounds ha;omega
    · rcases hw with rfl | ⟨t,rfl⟩
      · exact Fr.refl _ _
      · exact Fr.of_below (Joins.below_bytesWorld _ _ _ _ (Nat.le_refl _))
  | range =>
    refine (Tryz.strconv_Atoi_range ⟨s.toArray⟩ (by rw [hsz];omega) ha v3 w (cell_of hr3) hv3).mono ?_
    rintro e w' ⟨N,rfl,_,_,hb⟩
    have:=Lib.atoiSat_bounds s
    exact ⟨_,_,rfl,⟨Lib.atoiSat s,false,N,rfl,rfl,fun h=>(by cases h),fun _ v=>(by rw [ha];exact fun h=>(by cases h)),by omega,by omega⟩,St.nil (Fr.of_below hb)⟩
  | _ =>
    refine (Tryz.strconv_Atoi_syntax ⟨s.toArray⟩ (by rw [hsz];omega) (show (∀ v,Lib.atoiAll s ≠ .ok v)∧Lib.atoiAll s ≠ .range from by rw [ha];exact ⟨fun v h=>(by cases h),fun h=>(by cases h)⟩) v2 w (cell_of hr2) hv2).mono ?_
    rintro e w' ⟨N,rfl,_,_,hb⟩
    exact ⟨_,_,rfl,⟨0,false,N,rfl,rfl,fun h=>(by cases h),fun _ v=>(by rw [ha];exact fun h=>(by cases h)),by omega,by omega⟩,St.nil (Fr.of_below hb)⟩
theorem sz (s:Bytes):(⟨s.toArray⟩:ByteArray).size=s.length:=by show s.toArray.size=_;simp
theorem cont_ok (c:UInt8) (s:Bytes) (w:World):Calls Tryz.prog 20 #[vS s,vS [c]] w (Gives [] w fun v L=>v=vB (decide (c∈s))∧L=[]):=by
  refine (Tryz.strings_Contains_one ⟨s.toArray⟩ c w).mono ?_
  rintro e w' ⟨rfl,rfl⟩
  exact ⟨_,_,rfl,⟨congrArg vB (R45.cont_lib c s),rfl⟩,St.nil (Fr.refl _ _)⟩
theorem fr_drewN (w:World) (n:Nat):Fr [] w (w.drewN n):=Fr.of_below (below_drewNg w n)
theorem cut_ok (c:UInt8) (s:Bytes) (w:World) (hT:Tab [] w) (q0:s.length≤1000000):Calls Tryz.prog 92 #[vS s,vS [c]] w (Gives [] w fun v L=>∃ (a r:Bytes) (o:Bool),v=Value.tuple #[vS a,vS r,vB o]∧L=[]∧(o=true→R45.cutB c s=some (a,r))∧(o=false→R45.cutB c s=none)∧(a.length+r.length≤s.length)):=by
  obtain ⟨m,hm⟩:=hT.mx
  refine (Tryz.strings_Cut ⟨s.toArray⟩ ⟨#[c]⟩ m w (by rw [sz];omega) (cell_of hm)).mono ?_
  rintro e w' ⟨rfl,n,rfl⟩
  rcases R45.cut_lib c s with ⟨h1,h2⟩ | ⟨a,r,h1,h2⟩
  · refine ⟨_,_,rfl,⟨s,[],false,?_,rfl,fun h=>(by cases h),fun _=>h1,Nat.le_refl _⟩,St.nil (fr_drewN w n)⟩
    show Value.tuple #[vS (Lib.cut s [c]).1,vS (Lib.cut s [c]).2.1,vB (Lib.cut s [c]).2.2]=_
    rw [h2]
  · refine ⟨_,_,rfl,⟨a,r,true,?_,rfl,fun _=>h1,fun h=>(by cases h),by have:=congrArg List.length (R45.cutB_le h1);rw [List.length_append,List.length_cons] at this;omega⟩,St.nil (fr_drewN w n)⟩
    show Value.tuple #[vS (Lib.cut s [c]).1,vS (Lib.cut s [c]).2.1,vB (Lib.cut s [c]).2.2]=_
    rw [h2]
end Go.Proofs.YtggobegaiijhhaaGreatDoor
namespace Go.GV
open Go.RowKit
theorem iface_of {H:Type} {enc:TypeId × Value→H} {P:Program} {w:World} {base:Nat} {sp:Nat→Bool} {held:Bool} {fuel:Nat} {t:TypeId} {m:Array (String × TypeId)} {cs:List Value} {nm:String} {d:DataW H} {p:List MemPlace}
    (ht:P.underlying t=some (.interface m)) (h:DataW.trod enc P w base sp held fuel t cs=some (.iface nm d,p)):∃ te pe,cs=[.iface te pe]:=by
  cases fuel with
  | zero=>cases h
  | succ fuel =>
    unfold DataW.trod at h
    rw [ht] at h
    match cs,h with
    | [.iface te pe],_=>exact ⟨te,pe,rfl⟩
    | [.nilIface],h=>cases h
section
variable {P:Program} {t:TypeId}
theorem open_cap {e:TypeId} (ht:P.underlying t=some (.slice e)):OpenAt P t fun _ cs=>∃ (A:Option Addr) (l c:Nat),cs=[.slice A l c]∧l≤c:=by
  intro H enc w fuel cs x hx
  rcases Deep.open_slice ht hx with ⟨rfl,_⟩ | ⟨a,len,cap,m,n,D,Pl,rfl,_,hlc,_⟩
  · exact ⟨none,0,0,rfl,Nat.le_refl _⟩
  · exact ⟨some a,len,cap,rfl,hlc⟩
end
theorem ro_one {w:World} {b:Nat} {v:Value} (h:w.cell? ⟨b,0,none⟩=some v) (hb:b<w.heap.size):RO [] w (some ⟨b,0,none⟩) [v]:=fun j u hj=>by
  cases j with
  | zero=>cases hj;exact ⟨_,rfl,hb,List.not_mem_nil,h⟩
  | succ j=>cases hj
end Go.GV
namespace Go
theorem returnsInHanded_of_change_and_shaped {H:Type} {enc:TypeId × Value→H} {a:Assume} {C:Checked} {os:Os} {f:FuncId} {fn:Func} {s:ChangeSpec} {conds:List PathCond} {apart fresh handsOn again:Bool} {X:World→Array Value→Prop}
    (hX:∀ (w w':World) (args:Array Value),w.heap=w'.heap→X w args→X w' args)
    (own:ownKnob C.prog.godebug=none) (started:os.Started) (noInit:C.prog.inits.idxOf? f=none) (hfn:C.prog.funcs[f]? = some fn)
    (witness:∃ (w:World) (tape:Tape) (i:Input),w.os=os∧(w.forCall tape i).Shaped C.prog∧i.vars=[]∧Input.okWide C.prog (w.forCall tape i) .any w.heap.size f i ∧
      ((s.pre enc C.prog fn conds apart (w.forCall tape i).memory i.args∧X (w.forCall tape i).memory i.args)∧sizedMet enc C.prog fn (OpenSpec.ofChange s) apart (w.forCall tape i).memory i.args)∧a.holds C.prog (lone (Frame.enter C.prog f i.args .normal) [] (w.forCall tape i)))
    (contract:∀ (W:World) (base:Nat) (args:Array Value) (ds gs:List (DataW H)) (before:List MemPlace),
      (∀ (j:Nat) t v,fn.params[j]? = some t→args[j]? = some v→Value.okWide C.prog W .any base t v) →
      DataW.Whole enc C.prog fn.params.toList s.vars apart W args.toList ds gs before →
      X W args→W.ShapedOpen C.prog →
      Calls C.prog f args W fun e W'=>∃ v,e = .returned v∧s.post enc C.prog fn apart fresh handsOn again W args v W') :
    ReturnsInHanded a C os f .any (fun w args=>(s.pre enc C.prog fn conds apart w args∧X w args)∧sizedMet enc C.prog fn (OpenSpec.ofChange s) apart w args) (s.post enc C.prog fn apart fresh handsOn again):=by
  refine returnsInHanded_of_calls own started noInit witness ?_
  intro w tape i _ hsh _ hok hpre _
  obtain ⟨_,_,_,fn',hfn',_,_,_,_,hval⟩:=hok
  obtain rfl:fn'=fn:=Option.some.inj (hfn'.symm.trans hfn)
  obtain ⟨⟨⟨ds,gs,before,hw,_⟩,hx⟩,_⟩:=hpre
  refine (contract (w.forCall tape i) w.heap.size i.args ds gs before hval (DataW.Whole.of_heap (w':=w.forCall tape i) (by rfl) hw) (hX _ _ _ (by rfl) hx) hsh).mono fun e W' ⟨v,he,hp⟩=>?_
  subst he
  exact ChangeSpec.post_blind hp
end Go
namespace Go.Proofs.YtggobegaiijhhaaGreatDoor
open Go.GV Go.RowKit
theorem own:ownKnob Tryz.prog.godebug=none:=by kernel_rfl
theorem gN1:Tryz.prog.globalNamed Rows.utilityRecordsRow.laid[2].1=some 1:=by kernel_rfl
theorem gN2:Tryz.prog.globalNamed Rows.utilityRecordsRow.laid[5].1=some 4:=by kernel_rfl
theorem gN3:Tryz.prog.globalNamed Rows.utilityRecordsRow.laid[4].1=some 5:=by kernel_rfl
theorem gT1:(Tryz.prog.globals[1]?).map (·.type)=some 157:=by kernel_rfl
theorem gT2:(Tryz.prog.globals[4]?).map (·.type)=some 127:=by kernel_rfl
theorem gT3:(Tryz.prog.globals[5]?).map (·.type)=some 127:=by kernel_rfl
theorem gMax {w:World} (h:w.ShapedOpen Tryz.prog):∃ m,w.cell? ⟨0,0,none⟩=some (.int .i64 m):=
  Go.Proofs.cell_of_shapedOpen_int (zero:=#[.int .i64 0]) (t:=3) h (of_decide_eq_true (by kernel_rfl)) (by kernel_rfl) rfl (by kernel_rfl) (by kernel_rfl) Tryz.underlying3
theorem dTab:(Rows.laid_internal_strconv_uint64pow10:DataW Unit)=Lib.tabData .u64 Lib.pow10Tab:=by kernel_rfl
theorem var_cells {W:World} {g:Nat} {cs:Array Value} {l:List Value} {nm:String} (hg:Tryz.prog.globalNamed nm=some g) (hv:W.var? Tryz.prog nm=some cs) (hc:cs.toList=l):g<W.heap.size ∧ ∃ t f,W.heap[g]? = some (.cells l.toArray t f):=by
  unfold World.var? at hv
  rw [hg] at hv
  simp only [Option.bind_some] at hv
  cases ho:W.heap[g]? with
  | none=>rw [ho] at hv;cases hv
  | some o =>
    rw [ho] at hv
    cases o with
    | cells c t f =>
      have hv:some c=some cs:=hv
      obtain rfl:=Option.some.inj hv
      exact ⟨(Array.getElem?_eq_some_iff.1 ho).1,t,f,by rw [← hc]⟩
    | _=>cases hv
theorem cell_at {W:World} {g:Nat} {v:Value} {t:TypeId} {f:Nat × Nat} (h:W.heap[g]? = some (.cells [v].toArray t f)):W.cell? ⟨g,0,none⟩=some v:=by
  simp [World.cell?,h]
noncomputable abbrev start (os:Os):World:=World.laidAll Tryz.prog os Rows.utilityRecordsRow.laid
theorem door_met (os:Os) (args:Array Value):laidMetH Tryz.prog Rows.utilityRecordsRow.laid ((start os).forCall (fun _ _=>0) ⟨#[],args,[]⟩).memory:=by
  rw [MakeChecks.laidMetH_plain _ _ _ (by kernel_rfl)]
  exact laidMet_laidAll args (by kernel_rfl) (by kernel_rfl)
theorem start_os (os:Os):(start os).os=os:=World.laidAll_os _ _ _
theorem tab_of {W:World} (hs:W.ShapedOpen Tryz.prog) (h:laidMetH Tryz.prog Rows.utilityRecordsRow.laid W):Tab [] W:=by
  rw [MakeChecks.laidMetH_plain _ _ _ (by kernel_rfl)] at h
  obtain ⟨ps,⟨g0,t0,cs0,f0,p0,q0,hg0,ht0,hv0,hd0,⟨g1,t1,cs1,f1,p1,q1,hg1,ht1,hv1,hd1,⟨g2,t2,cs2,f2,p2,q2,hg2,ht2,hv2,hd2,⟨g3,t3,cs3,f3,p3,q3,hg3,ht3,hv3,hd3,⟨g4,t4,cs4,f4,p4,q4,hg4,ht4,hv4,hd4,⟨g5,t5,cs5,f5,p5,q5,hg5,ht5,hv5,hd5,⟨g6,t6,cs6,f6,p6,q6,hg6,ht6,hv6,hd6,_,_⟩,_⟩,_⟩,_⟩,_⟩,_⟩,_⟩,_,_⟩:=h
  obtain rfl:=Option.some.inj (gN1.symm.trans hg2)
  obtain rfl:=Option.some.inj (gN2.symm.trans hg5)
  obtain rfl:=Option.some.inj (gN3.symm.trans hg4)
  obtain rfl:=Option.some.inj (gT1.symm.trans ht2)
  obtain rfl:=Option.some.inj (gT2.symm.trans ht5)
  obtain rfl:=Option.some.inj (gT3.symm.trans ht4)
  rw [dTab] at hd2
  have hc:=Lib.cells_of_tab Tryz.underlying157 Tryz.underlying114 (by kernel_rfl) (by kernel_rfl) hd2
  obtain ⟨h1,k1,k2,k3⟩:=var_cells hg2 hv2 hc
  obtain ⟨e5,f5',hc5⟩:=iface_of Tryz.underlying127 hd5
  obtain ⟨e4,f4',hc4⟩:=iface_of Tryz.underlying127 hd4
  obtain ⟨h5,_,_,y5⟩:=var_cells hg5 hv5 hc5
  obtain ⟨h4,_,_,y4⟩:=var_cells hg4 hv4 hc4
  obtain ⟨m,hm⟩:=gMax hs
  exact ⟨⟨List.not_mem_nil,h1,k1,k2,k3⟩,⟨m,ro_one hm (by omega)⟩,⟨_,.inr ⟨e5,f5',rfl⟩,ro_one (cell_at y5) h5⟩,⟨_,.inr ⟨e4,f4',rfl⟩,ro_one (cell_at y4) h4⟩⟩
end Go.Proofs.YtggobegaiijhhaaGreatDoor
