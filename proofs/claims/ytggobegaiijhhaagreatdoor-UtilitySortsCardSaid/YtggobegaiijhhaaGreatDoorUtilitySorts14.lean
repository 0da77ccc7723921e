/- Pl45f, C45g, Pl45g, Pl45j, C45h, St44, Rq, Pl44 in one text. -/
import Derived.Test.YtggobegaiijhhaaGreatDoorUtilitySorts12
import Derived.Test.YtggobegaiijhhaaGreatDoorC45w
import Derived.Test.YtggobegaiijhhaaGreatDoorUtilitySorts3
import Derived.Test.YtggobegaiijhhaaGreatDoorUtilitySorts2
import Derived.Lib.Repeat
import Derived.Test.YtggobegaiijhhaaGreatDoorUtilitySorts8
import Derived.Test.YtggobegaiijhhaaGreatDoorUtilitySorts6
set_option linter.unusedVariables false
set_option linter.unusedSimpArgs false
namespace Go.Proofs.YtggobegaiijhhaaGreatDoor
open Go.GV
namespace R45
def numV (s:Bytes) (most:Int):Option Int:=match Lib.atoiAll s with
  | .ok n=>if 0≤n∧n≤most∧Lib.decDigits n.toNat=s then some n else none
  | _=>none
theorem NumJ.yes {s:Bytes} {most n:Int} {ok:Bool} (h:NumJ s most n ok) (hk:ok=true):numV s most=some n:=by
  obtain ⟨er,h1,h2⟩:=h
  rw [hk] at h2
  have h2:=h2.symm
  simp only [Bool.and_eq_true,decide_eq_true_eq] at h2
  unfold numV
  rw [h1.1 h2.1.1.1]
  exact if_pos ⟨h2.1.1.2,h2.1.2,h2.2⟩
theorem NumJ.no {s:Bytes} {most n:Int} {ok:Bool} (h:NumJ s most n ok) (hk:ok=false):numV s most=none:=by
  obtain ⟨er,h1,h2⟩:=h
  unfold numV
  cases er with
  | false =>
    have:=h1.2.1 rfl
    cases ha:Lib.atoiAll s with
    | ok n=>exact absurd ha (this n)
    | range=>rfl
    | _=>rfl
  | true =>
    rw [h1.1 rfl]
    refine if_neg fun hc=>?_
    rw [hk] at h2
    have h2:=h2.symm
    simp [hc.1,hc.2.1,hc.2.2] at h2
def parmG (s:Bytes):Option (Int × Bytes):=match cutB 32 s with
  | some (a,t)=>match numV a 300 with
    | some n=>if t≠[]∧t.length≤20∧(32:UInt8)∉t then some (n,t) else none
    | none=>none
  | none=>none
def GenP (s:Bytes) (n:Int) (t:Bytes) (ok:Bool):Prop:=(ok=true→parmG s=some (n,t)∧0≤n∧n≤300∧t.length≤20)∧(ok=false→parmG s=none)
theorem genP {s a t:Bytes} {n:Int} {o is:Bool} (h1:o=true→cutB 32 s=some (a,t)) (h2:o=false→cutB 32 s=none) (h3:NumJ a 300 n is):GenP s n t ((((o&&is)&&decide (t≠[]))&&decide ((t.length:Int)≤20)) && !decide ((32:UInt8)∈t)):=by
  refine ⟨fun h=>?_,fun h=>?_⟩
  · simp only [Bool.and_eq_true,decide_eq_true_eq,Bool.not_eq_true',decide_eq_false_iff_not] at h
    obtain ⟨⟨⟨⟨ho,hi⟩,ht⟩,hl⟩,hn⟩:=h
    have:=h3.bd.1 hi
    refine ⟨?_,this.1,this.2,by omega⟩
    unfold parmG
    simp only [h1 ho,h3.yes hi]
    exact if_pos ⟨ht,by omega,hn⟩
  · unfold parmG
    cases o with
    | false=>rw [h2 rfl]
    | true =>
      simp only [h1 rfl]
      cases is with
      | false=>simp only [h3.no rfl]
      | true =>
        simp only [h3.yes rfl]
        refine if_neg fun hc=>?_
        have:((t.length:Nat):Int)≤20:=by have:=hc.2.1;omega
        simp [hc.1,hc.2.2,this] at h
def genL (t:Bytes) (n:Nat):List Bytes:=(List.range n).map (genS t)
theorem gen_step (t:Bytes) (n:Nat):genL t n++[genS t n]=genL t (n+1):=by unfold genL;rw [List.range_succ,List.map_append];rfl
theorem gen_len (t:Bytes) (n:Nat):(genL t n).length=n:=by unfold genL;simp
theorem gen_each (t:Bytes) (n:Nat) (h:n≤300) (ht:t.length≤20) (i:Nat):((genL t n).getD i []).length≤1000000:=by
  by_cases hi:i<n
  · rw [List.getD_eq_getElem?_getD,List.getElem?_eq_getElem (by rw [gen_len];exact hi)]
    unfold genL
    simp only [List.getElem_map,List.getElem_range,Option.getD_some,genS,List.length_append,List.length_drop]
    have:=R44.dec_len19 (n:=10001+i) (by omega)
    omega
  · rw [List.getD_eq_getElem?_getD,List.getElem?_eq_none (by rw [gen_len];omega)];simp
theorem dec_pos (n:Nat):1≤(Lib.decDigits n).length:=by
  unfold Lib.decDigits
  split <;> simp
theorem dec_posI (n:Int):1≤(Lib.decDigits n.toNat).length:=dec_pos _
theorem sub1 (s:Bytes):sub s 1 s.length=s.drop 1:=by unfold sub;rw [List.take_of_length_le (by simp)]
theorem sub1_len (n:Int) (h:n≤11000):(sub (Lib.decDigits n.toNat) 1 (Lib.decDigits n.toNat).length).length≤19:=by
  rw [sub1,List.length_drop];have:=R44.dec_len19 (n:=n.toNat) (by omega);omega
theorem gen_stepS (t:Bytes) (i:Nat):genL t i++[t++sub (Lib.decDigits ((10001+i:Nat):Int).toNat) 1 (Lib.decDigits ((10001+i:Nat):Int).toNat).length]=genL t (i+1):=by
  rw [sub1,← gen_step];rfl
def bd (l:List Binding) (dd:Bytes):Binding:=l.getD (findI dd l).toNat default
def IN:Bytes:=[73,78]
def IN1:Bytes:=[73,78,49]
def IN2:Bytes:=[73,78,50]
def OUT:Bytes:=[79,85,84]
theorem recV_each {rows:List SRow} {b:Binding} {n:Nat} (h:∀ x∈rows,x.Record.length≤n) (h2:∀ i,(b.Lines.getD i []).length≤n) (i:Nat):((recV rows b).getD i []).length≤n:=by
  unfold recV
  split
  · exact h2 i
  · split
    · simp
    · unfold recs
      by_cases hi:i<(above rows b.EData.Id []).length
      · rw [List.getD_eq_getElem?_getD,List.getElem?_eq_getElem (by rw [List.length_map];exact hi),List.getElem_map]
        exact h _ (above_mem.1 (List.getElem_mem hi)).1
      · rw [List.getD_eq_getElem?_getD,List.getElem?_eq_none (by rw [List.length_map];omega)];simp
end R45
end Go.Proofs.YtggobegaiijhhaaGreatDoor
namespace Go.Proofs.YtggobegaiijhhaaGreatDoor
open Go.GV
set_option linter.unusedVariables false
set_option linter.unusedSimpArgs false
set_option maxRecDepth 20000 in
theorem f43_ok (x:Nat) (w:World):Calls Tryz.prog 43 #[pB x 0] w (Gives [] w fun v L=>v=vB true∧L=[]):=by
 refine calls_J [] 3 Tryz.func43 rfl Tryz.ntmps43 [(0,_)] rfl rfl (Give.nil w) ?_
 refine q_ (g_ (s_ av_ (z_ (n_ (q_ (g_ (s_ av_ (z_ (n_ (rt_ ?_))))))))))
 exact p1 Tryz.results43 rfl ⟨rfl,rfl⟩
set_option maxRecDepth 20000 in
theorem f32_ok (w:World):Calls Tryz.prog 32 #[] w (Gives [] w fun v L=>∃ pm:Nat,∃ tb:Nat,v=Value.map (some pm)∧L=[Ent.mp vS pm [([97,98,101,110,100],Value.func (.func 44) #[] #[pB tb 0]),([99,111,100,101],Value.func (.func 47) #[] #[]),([99,111,109,112,97,114,101],Value.func (.func 51) #[] #[pB tb 0]),([99,111,112,121],Value.func (.func 54) #[] #[pB tb 0]),([99,111,117,110,116],Value.func (.func 57) #[] #[pB tb 0]),([101,114,97,115,101],Value.func (.func 61) #[] #[pB tb 0]),([103,101,110,101,114,97,116,101],Value.func (.func 64) #[] #[]),([109,101,114,103,101],Value.func (.func 65) #[] #[]),([112,114,105,110,116],Value.func (.func 66) #[] #[pB tb 0]),([115,101,108,101,99,116],Value.func (.func 69) #[] #[]),([115,111,114,116],Value.func (.func 70) #[] #[])],Ent.blk tb 94 [Value.func (.func 43) #[] #[]]]):=by
 refine calls_J [] 10 Tryz.func32 rfl Tryz.ntmps32 [] rfl rfl (Give.nil w) ?_
 refine q_ (g_ (s_ av_ (z_ (n_ (q_ (g_ (o_ (al_ Ty.ze94 fun b1=>?_))))))))
 refine o_ (st1 0 Ty.sz94 ?_)
 refine z_ (n_ (q_ (g_ (o_ (O_makeMap vS fun b2=>?_)))))
 refine js_ (Value.func (.func 44) #[] #[pB b1 0]) (x_makeFunc rfl rfl) (o_ (O_insert 0 (f:=vS) (k:=[97,98,101,110,100]) [([97,98,101,110,100],Value.func (.func 44) #[] #[pB b1 0])] [Ent.mp vS b2 [([97,98,101,110,100],Value.func (.func 44) #[] #[pB b1 0])],Ent.blk b1 94 [Value.func (.func 43) #[] #[]]] rfl rfl rfl rfl Tryz.underlying89 (mapK_s Tryz.underlying9) rfl rfl ?_))
 refine o_ (O_insert 0 (f:=vS) (k:=[99,111,100,101]) [([97,98,101,110,100],Value.func (.func 44) #[] #[pB b1 0]),([99,111,100,101],Value.func (.func 47) #[] #[])] [Ent.mp vS b2 [([97,98,101,110,100],Value.func (.func 44) #[] #[pB b1 0]),([99,111,100,101],Value.func (.func 47) #[] #[])],Ent.blk b1 94 [Value.func (.func 43) #[] #[]]] rfl rfl rfl rfl Tryz.underlying89 (mapK_s Tryz.underlying9) rfl rfl ?_)
 refine js_ (Value.func (.func 51) #[] #[pB b1 0]) (x_makeFunc rfl rfl) (o_ (O_insert 0 (f:=vS) (k:=[99,111,109,112,97,114,101]) [([97,98,101,110,100],Value.func (.func 44) #[] #[pB b1 0]),([99,111,100,101],Value.func (.func 47) #[] #[]),([99,111,109,112,97,114,101],Value.func (.func 51) #[] #[pB b1 0])] [Ent.mp vS b2 [([97,98,101,110,100],Value.func (.func 44) #[] #[pB b1 0]),([99,111,100,101],Value.func (.func 47) #[] #[]),([99,111,109,112,97,114,101],Value.func (.func 51) #[] #[pB b1 0])],Ent.blk b1 94 [Value.func (.func 43) #[] #[]]] rfl rfl rfl rfl Tryz.underlying89 (mapK_s Tryz.underlying9) rfl rfl ?_))
 refine js_ (Value.func (.func 54) #[] #[pB b1 0]) (x_makeFunc rfl rfl) (o_ (O_insert 0 (f:=vS) (k:=[99,111,112,121]) [([97,98,101,110,100],Value.func (.func 44) #[] #[pB b1 0]),([99,111,100,101],Value.func (.func 47) #[] #[]),([99,111,109,112,97,114,101],Value.func (.func 51) #[] #[pB b1 0]),([99,111,112,121],Value.func (.func 54) #[] #[pB b1 0])] [Ent.mp vS b2 [([97,98,101,110,100],Value.func (.func 44) #[] #[pB b1 0]),([99,111,100,101],Value.func (.func 47) #[] #[]),([99,111,109,112,97,114,101],Value.func (.func 51) #[] #[pB b1 0]),([99,111,112,121],Value.func (.func 54) #[] #[pB b1 0])],Ent.blk b1 94 [Value.func (.func 43) #[] #[]]] rfl rfl rfl rfl Tryz.underlying89 (mapK_s Tryz.underlying9) rfl rfl ?_))
 refine js_ (Value.func (.func 57) #[] #[pB b1 0]) (x_makeFunc rfl rfl) (o_ (O_insert 0 (f:=vS) (k:=[99,111,117,110,116]) [([97,98,101,110,100],Value.func (.func 44) #[] #[pB b1 0]),([99,111,100,101],Value.func (.func 47) #[] #[]),([99,111,109,112,97,114,101],Value.func (.func 51) #[] #[pB b1 0]),([99,111,112,121],Value.func (.func 54) #[] #[pB b1 0]),([99,111,117,110,116],Value.func (.func 57) #[] #[pB b1 0])] [Ent.mp vS b2 [([97,98,101,110,100],Value.func (.func 44) #[] #[pB b1 0]),([99,111,100,101],Value.func (.func 47) #[] #[]),([99,111,109,112,97,114,101],Value.func (.func 51) #[] #[pB b1 0]),([99,111,112,121],Value.func (.func 54) #[] #[pB b1 0]),([99,111,117,110,116],Value.func (.func 57) #[] #[pB b1 0])],Ent.blk b1 94 [Value.func (.func 43) #[] #[]]] rfl rfl rfl rfl Tryz.underlying89 (mapK_s Tryz.underlying9) rfl rfl ?_))
 refine js_ (Value.func (.func 61) #[] #[pB b1 0]) (x_makeFunc rfl rfl) ?_
 refine o_ (O_insert 0 (f:=vS) (k:=[101,114,97,115,101]) [([97,98,101,110,100],Value.func (.func 44) #[] #[pB b1 0]),([99,111,100,101],Value.func (.func 47) #[] #[]),([99,111,109,112,97,114,101],Value.func (.func 51) #[] #[pB b1 0]),([99,111,112,121],Value.func (.func 54) #[] #[pB b1 0]),([99,111,117,110,116],Value.func (.func 57) #[] #[pB b1 0]),([101,114,97,115,101],Value.func (.func 61) #[] #[pB b1 0])] [Ent.mp vS b2 [([97,98,101,110,100],Value.func (.func 44) #[] #[pB b1 0]),([99,111,100,101],Value.func (.func 47) #[] #[]),([99,111,109,112,97,114,101],Value.func (.func 51) #[] #[pB b1 0]),([99,111,112,121],Value.func (.func 54) #[] #[pB b1 0]),([99,111,117,110,116],Value.func (.func 57) #[] #[pB b1 0]),([101,114,97,115,101],Value.func (.func 61) #[] #[pB b1 0])],Ent.blk b1 94 [Value.func (.func 43) #[] #[]]] rfl rfl rfl rfl Tryz.underlying89 (mapK_s Tryz.underlying9) rfl rfl ?_)
 refine o_ (O_insert 0 (f:=vS) (k:=[103,101,110,101,114,97,116,101]) [([97,98,101,110,100],Value.func (.func 44) #[] #[pB b1 0]),([99,111,100,101],Value.func (.func 47) #[] #[]),([99,111,109,112,97,114,101],Value.func (.func 51) #[] #[pB b1 0]),([99,111,112,121],Value.func (.func 54) #[] #[pB b1 0]),([99,111,117,110,116],Value.func (.func 57) #[] #[pB b1 0]),([101,114,97,115,101],Value.func (.func 61) #[] #[pB b1 0]),([103,101,110,101,114,97,116,101],Value.func (.func 64) #[] #[])] [Ent.mp vS b2 [([97,98,101,110,100],Value.func (.func 44) #[] #[pB b1 0]),([99,111,100,101],Value.func (.func 47) #[] #[]),([99,111,109,112,97,114,101],Value.func (.func 51) #[] #[pB b1 0]),([99,111,112,121],Value.func (.func 54) #[] #[pB b1 0]),([99,111,117,110,116],Value.func (.func 57) #[] #[pB b1 0]),([101,114,97,115,101],Value.func (.func 61) #[] #[pB b1 0]),([103,101,110,101,114,97,116,101],Value.func (.func 64) #[] #[])],Ent.blk b1 94 [Value.func (.func 43) #[] #[]]] rfl rfl rfl rfl Tryz.underlying89 (mapK_s Tryz.underlying9) rfl rfl ?_)
 refine o_ (O_insert 0 (f:=vS) (k:=[109,101,114,103,101]) [([97,98,101,110,100],Value.func (.func 44) #[] #[pB b1 0]),([99,111,100,101],Value.func (.func 47) #[] #[]),([99,111,109,112,97,114,101],Value.func (.func 51) #[] #[pB b1 0]),([99,111,112,121],Value.func (.func 54) #[] #[pB b1 0]),([99,111,117,110,116],Value.func (.func 57) #[] #[pB b1 0]),([101,114,97,115,101],Value.func (.func 61) #[] #[pB b1 0]),([103,101,110,101,114,97,116,101],Value.func (.func 64) #[] #[]),([109,101,114,103,101],Value.func (.func 65) #[] #[])] [Ent.mp vS b2 [([97,98,101,110,100],Value.func (.func 44) #[] #[pB b1 0]),([99,111,100,101],Value.func (.func 47) #[] #[]),([99,111,109,112,97,114,101],Value.func (.func 51) #[] #[pB b1 0]),([99,111,112,121],Value.func (.func 54) #[] #[pB b1 0]),([99,111,117,110,116],Value.func (.func 57) #[] #[pB b1 0]),([101,114,97,115,101],Value.func (.func 61) #[] #[pB b1 0]),([103,101,110,101,114,97,116,101],Value.func (.func 64) #[] #[]),([109,101,114,103,101],Value.func (.func 65) #[] #[])],Ent.blk b1 94 [Value.func (.func 43) #[] #[]]] rfl rfl rfl rfl Tryz.underlying89 (mapK_s Tryz.underlying9) rfl rfl ?_)
 refine js_ (Value.func (.func 66) #[] #[pB b1 0]) (x_makeFunc rfl rfl) ?_
 refine o_ (O_insert 0 (f:=vS) (k:=[112,114,105,110,116]) [([97,98,101,110,100],Value.func (.func 44) #[] #[pB b1 0]),([99,111,100,101],Value.func (.func 47) #[] #[]),([99,111,109,112,97,114,101],Value.func (.func 51) #[] #[pB b1 0]),([99,111,112,121],Value.func (.func 54) #[] #[pB b1 0]),([99,111,117,110,116],Value.func (.func 57) #[] #[pB b1 0]),([101,114,97,115,101],Value.func (.func 61) #[] #[pB b1 0]),([103,101,110,101,114,97,116,101],Value.func (.func 64) #[] #[]),([109,101,114,103,101],Value.func (.func 65) #[] #[]),([112,114,105,110,116],Value.func (.func 66) #[] #[pB b1 0])] [Ent.mp vS b2 [([97,98,101,110,100],Value.func (.func 44) #[] #[pB b1 0]),([99,111,100,101],Value.func (.func 47) #[] #[]),([99,111,109,112,97,114,101],Value.func (.func 51) #[] #[pB b1 0]),([99,111,112,121],Value.func (.func 54) #[] #[pB b1 0]),([99,111,117,110,116],Value.func (.func 57) #[] #[pB b1 0]),([101,114,97,115,101],Value.func (.func 61) #[] #[pB b1 0]),([103,101,110,101,114,97,116,101],Value.func (.func 64) #[] #[]),([109,101,114,103,101],Value.func (.func 65) #[] #[]),([112,114,105,110,116],Value.func (.func 66) #[] #[pB b1 0])],Ent.blk b1 94 [Value.func (.func 43) #[] #[]]] rfl rfl rfl rfl Tryz.underlying89 (mapK_s Tryz.underlying9) rfl rfl ?_)
 refine o_ (O_insert 0 (f:=vS) (k:=[115,101,108,101,99,116]) [([97,98,101,110,100],Value.func (.func 44) #[] #[pB b1 0]),([99,111,100,101],Value.func (.func 47) #[] #[]),([99,111,109,112,97,114,101],Value.func (.func 51) #[] #[pB b1 0]),([99,111,112,121],Value.func (.func 54) #[] #[pB b1 0]),([99,111,117,110,116],Value.func (.func 57) #[] #[pB b1 0]),([101,114,97,115,101],Value.func (.func 61) #[] #[pB b1 0]),([103,101,110,101,114,97,116,101],Value.func (.func 64) #[] #[]),([109,101,114,103,101],Value.func (.func 65) #[] #[]),([112,114,105,110,116],Value.func (.func 66) #[] #[pB b1 0]),([115,101,108,101,99,116],Value.func (.func 69) #[] #[])] [Ent.mp vS b2 [([97,98,101,110,100],Value.func (.func 44) #[] #[pB b1 0]),([99,111,100,101],Value.func (.func 47) #[] #[]),([99,111,109,112,97,114,101],Value.func (.func 51) #[] #[pB b1 0]),([99,111,112,121],Value.func (.func 54) #[] #[pB b1 0]),([99,111,117,110,116],Value.func (.func 57) #[] #[pB b1 0]),([101,114,97,115,101],Value.func (.func 61) #[] #[pB b1 0]),([103,101,110,101,114,97,116,101],Value.func (.func 64) #[] #[]),([109,101,114,103,101],Value.func (.func 65) #[] #[]),([112,114,105,110,116],Value.func (.func 66) #[] #[pB b1 0]),([115,101,108,101,99,116],Value.func (.func 69) #[] #[])],Ent.blk b1 94 [Value.func (.func 43) #[] #[]]] rfl rfl rfl rfl Tryz.underlying89 (mapK_s Tryz.underlying9) rfl rfl ?_)
 refine o_ (O_insert 0 (f:=vS) (k:=[115,111,114,116]) [([97,98,101,110,100],Value.func (.func 44) #[] #[pB b1 0]),([99,111,100,101],Value.func (.func 47) #[] #[]),([99,111,109,112,97,114,101],Value.func (.func 51) #[] #[pB b1 0]),([99,111,112,121],Value.func (.func 54) #[] #[pB b1 0]),([99,111,117,110,116],Value.func (.func 57) #[] #[pB b1 0]),([101,114,97,115,101],Value.func (.func 61) #[] #[pB b1 0]),([103,101,110,101,114,97,116,101],Value.func (.func 64) #[] #[]),([109,101,114,103,101],Value.func (.func 65) #[] #[]),([112,114,105,110,116],Value.func (.func 66) #[] #[pB b1 0]),([115,101,108,101,99,116],Value.func (.func 69) #[] #[]),([115,111,114,116],Value.func (.func 70) #[] #[])] [Ent.mp vS b2 [([97,98,101,110,100],Value.func (.func 44) #[] #[pB b1 0]),([99,111,100,101],Value.func (.func 47) #[] #[]),([99,111,109,112,97,114,101],Value.func (.func 51) #[] #[pB b1 0]),([99,111,112,121],Value.func (.func 54) #[] #[pB b1 0]),([99,111,117,110,116],Value.func (.func 57) #[] #[pB b1 0]),([101,114,97,115,101],Value.func (.func 61) #[] #[pB b1 0]),([103,101,110,101,114,97,116,101],Value.func (.func 64) #[] #[]),([109,101,114,103,101],Value.func (.func 65) #[] #[]),([112,114,105,110,116],Value.func (.func 66) #[] #[pB b1 0]),([115,101,108,101,99,116],Value.func (.func 69) #[] #[]),([115,111,114,116],Value.func (.func 70) #[] #[])],Ent.blk b1 94 [Value.func (.func 43) #[] #[]]] rfl rfl rfl rfl Tryz.underlying89 (mapK_s Tryz.underlying9) rfl rfl ?_)
 refine s_ mv_ (s_ av_ (z_ (n_ (rt_ ?_))))
 refine JX_rets [_] _ Tryz.results32 (fun w h=>⟨rfl,trivial⟩) rfl _ (fun _ h=>h) ⟨b2,b1,?_,?_⟩
 ·rfl
 ·rfl
set_option maxRecDepth 20000 in
theorem f64_ok (w:World):Calls Tryz.prog 64 #[] w (Gives [] w fun v L=>∃ nb:Nat,∃ bn:Nat,∃ bt:Nat,v=vG [vL (some ⟨nb,0,none⟩) 1 1,Value.func (.func 91) #[] #[pB bn 0,pB bt 0],Value.func (.func 93) #[] #[pB bn 0,pB bt 0]]∧L=[Ent.blk nb 9 [vS [79,85,84]],Ent.blk bn 3 [vI 0],Ent.blk bt 9 [vS []]]):=by
 refine calls_J [] 7 Tryz.func64 rfl Tryz.ntmps64 [] rfl rfl (Give.nil w) ?_
 refine q_ (g_ (o_ (al_ Ty.ze97 fun b1=>?_)))
 refine z_ (n_ (q_ (g_ (o_ (al_ Ty.ze3 fun b2=>?_)))))
 refine o_ (al_ Ty.ze9 fun b3=>?_)
 refine o_ (st1 1 Ty.sz3 ?_)
 refine o_ (st1 0 Ty.sz9 ?_)
 refine z_ (n_ (q_ (g_ (o_ (O_buildSlice (cs:=[vS [79,85,84]]) Tryz.underlying25 Ty.sz9 Ty.ze9 (by decide) (by decide) (by kernel_rfl) fun b4=>?_)))))
 refine js_ (Value.func (.func 91) #[] #[pB b2 0,pB b3 0]) (x_makeFunc rfl rfl) (js_ (Value.func (.func 93) #[] #[pB b2 0,pB b3 0]) (x_makeFunc rfl rfl) (js_ (vG [vL (some ⟨b4,0,none⟩) 1 1,Value.func (.func 91) #[] #[pB b2 0,pB b3 0],Value.func (.func 93) #[] #[pB b2 0,pB b3 0]]) (x_build (by kernel_rfl)) (o_ (stG 3 Ty.sz97 ?_))))
 refine z_ (n_ (rt_ ?_))
 refine JX_rets [_] _ Tryz.results64 (fun w h=>⟨⟨_,rfl,load_blkN 3 [vL (some ⟨b4,0,none⟩) 1 1,Value.func (.func 91) #[] #[pB b2 0,pB b3 0],Value.func (.func 93) #[] #[pB b2 0,pB b3 0]] h rfl Ty.ag97 Ty.sz97 rfl⟩,trivial⟩) rfl [Ent.blk b4 9 [vS [79,85,84]],Ent.blk b2 3 [vI 0],Ent.blk b3 9 [vS []]] (fun _ h=>(((h.front 1 _ rfl).front 2 _ rfl).front 2 _ rfl).keep [true,true,true,false] rfl) ⟨b4,b2,b3,?_,?_⟩
 ·rfl
 ·rfl
set_option maxRecDepth 20000 in
theorem f51_ok (tb:Nat) (w:World) (hg:Give [tb] w [Ent.blk tb 94 [Value.func (.func 43) #[] #[]]]):Calls Tryz.prog 51 #[pB tb 0] w (Gives [tb] w fun v L=>∃ nb:Nat,v=vG [vL (some ⟨nb,0,none⟩) 2 2,Value.func (.func 43) #[] #[],Value.func (.func 52) #[] #[]]∧L=[Ent.blk nb 9 [vS [73,78,49],vS [73,78,50]],Ent.blk tb 94 [Value.func (.func 43) #[] #[]]]):=by
 refine calls_J [tb] 5 Tryz.func51 rfl Tryz.ntmps51 [(0,_)] rfl rfl hg ?_
 refine q_ (g_ (o_ (al_ Ty.ze97 fun b1=>?_)))
 refine z_ (n_ (q_ (g_ (o_ (O_buildSlice (cs:=[vS [73,78,49],vS [73,78,50]]) Tryz.underlying25 Ty.sz9 Ty.ze9 (by decide) (by decide) (by kernel_rfl) fun b2=>?_)))))
 refine r_ (ld_ 2 Ty.sc94) (js_ (vG [vL (some ⟨b2,0,none⟩) 2 2,Value.func (.func 43) #[] #[],Value.func (.func 52) #[] #[]]) (x_build (by kernel_rfl)) (o_ (stG 1 Ty.sz97 ?_)))
 refine z_ (n_ (rt_ ?_))
 refine JX_rets [_] _ Tryz.results51 (fun w h=>⟨⟨_,rfl,load_blkN 1 [vL (some ⟨b2,0,none⟩) 2 2,Value.func (.func 43) #[] #[],Value.func (.func 52) #[] #[]] h rfl Ty.ag97 Ty.sz97 rfl⟩,trivial⟩) rfl _ (fun _ h=>h.keep [true,false,true] rfl) ⟨b2,?_,?_⟩
 ·rfl
 ·rfl
set_option maxRecDepth 20000 in
theorem f91_ok (x:Nat) (s:Nat) (parm:Bytes) (m:Nat) (bn:Nat) (bt:Nat) (n0:Int) (t0:Bytes) (w:World) (hT:Tab [x,bn,bt] w) (q0:parm.length≤1000) (hg:Give [x,bn,bt] w [Ent.blk x 82 [Value.iface 41 (pB s 0),vS parm,Value.map (some m),vI 0,vB false,vL none 0 0,vL none 0 0],Ent.blk bn 3 [vI n0],Ent.blk bt 9 [vS t0]]):Calls Tryz.prog 91 #[pB x 0,pB bn 0,pB bt 0] w (Gives [x,bn,bt] w fun v L=>∃ n:Int,∃ t:Bytes,∃ ok:Bool,v=vB ok∧L=[Ent.blk x 82 [Value.iface 41 (pB s 0),vS parm,Value.map (some m),vI 0,vB false,vL none 0 0,vL none 0 0],Ent.blk bn 3 [vI n],Ent.blk bt 9 [vS t]]∧(R45.GenP parm n t ok)):=by
 refine calls_J [x,bn,bt] 44 Tryz.func91 rfl Tryz.ntmps91 [(0,_),(1,_),(2,_)] rfl rfl hg ?_
 refine q_ (g_ (s_ av_ (z_ (n_ (q_ (g_ (s_ mv_ (s_ (x_nilCheck rfl) (s_ (fA 1 Ty.fi82_1) (r_ (ld_ 0 Ty.sc9) ?_))))))))))
 refine c1 (cl_ Ty.ca92) (fun w hS=>cut_ok 32 parm w (hT.on hS (fun _ h=>by cases h)) hy_) ?_
 rintro _ _ ⟨a1,r2,o3,rfl,rfl,hf4,hf5,hf6⟩
 refine s_ mv_ (s_ (ex_ 0) (s_ (ex_ 1) (s_ (ex_ 2) (s_ av_ (s_ av_ (s_ av_ (z_ (n_ (q_ (g_ (s_ mv_ ?_)))))))))))
 refine c1 (cl_ Ty.ca49) (fun w hS=>f49_ok a1 300 w (hT.on hS (fun _ h=>by cases h)) hy_) ?_
 rintro _ _ ⟨n7,ok8,rfl,rfl,hf9⟩
 refine s_ mv_ (s_ (ex_ 0) (s_ (ex_ 1) (s_ av_ (s_ av_ (z_ (xk_ [1,2,4,6,7,8,9] ?_))))))
 refine n_ (q_ (g_ (s_ mv_ (s_ mv_ (o_ (st1 1 Ty.sz3 ?_))))))
 refine o_ (st1 2 Ty.sz9 ?_)
 refine z_ (n_ (q_ (g_ (s_ mv_ (s_ mv_ ?_)))))
 refine and_ 1 (ok8) (fun g10=>?_) ?_
 ·have g10r:=g10
  refine sg_ g10 mv_ ?_
  exact cr_
 refine s_ mv_ ?_
 refine and_ 2 (decide (r2≠([]:Bytes))) (fun g11=>?_) ?_
 ·have g11r:=g11
  have ⟨g11r,h12⟩:=band_true g11r
  refine sg_ g11 mv_ (jg_ g11 (vB (decide (r2≠([]:Bytes)))) (x_neq_s rfl rfl) ?_)
  exact cr_
 refine s_ mv_ ?_
 refine and_ 3 (decide (((r2.length:Nat):Int)≤20)) (fun g13=>?_) ?_
 ·have g13r:=g13
  have ⟨g13r,h14⟩:=band_true g13r
  have ⟨g13r,h15⟩:=band_true g13r
  have h14:=of_decide_eq_true h14
  have h14l:=List.length_pos_iff.2 h14
  refine sg_ g13 mv_ (sg_ g13 (x_len_s rfl Tryz.underlying9) (sg_ g13 (x_leq_i rfl rfl) ?_))
  exact cr_
 refine s_ mv_ ?_
 refine and_ 3 (!(decide ((32:UInt8)∈r2))) (fun g16=>?_) ?_
 ·have g16r:=g16
  have ⟨g16r,h17⟩:=band_true g16r
  have ⟨g16r,h18⟩:=band_true g16r
  have ⟨g16r,h19⟩:=band_true g16r
  have h18:=of_decide_eq_true h18
  have h18l:=List.length_pos_iff.2 h18
  have h17:=of_decide_eq_true h17
  refine sg_ g16 mv_ (c0g g16 (cl_ Ty.ca20) (fun w hS=>cont_ok 32 r2 w) (sg_ g16 (x_not rfl) ?_))
  exact cr_
 refine s_ av_ (z_ (n_ (rt_ ?_)))
 refine JX_rets [_] _ Tryz.results91 (fun w h=>⟨rfl,trivial⟩) rfl _ (fun _ h=>h) ⟨n7,r2,((((o3&&ok8)&&(decide (r2≠([]:Bytes))))&&(decide (((r2.length:Nat):Int)≤20)))&&(!(decide ((32:UInt8)∈r2)))),?_,?_,?_⟩
 ·rfl
 ·rfl
 ·exact R45.genP (by assumption) (by assumption) (by assumption)
set_option maxRecDepth 20000 in
theorem f93_ok (x:Nat) (s:Nat) (parm:Bytes) (m:Nat) (rows:List SRow) (rowsA:Option Addr) (rowsC:Nat) (calls:Nat) (dds:List (Bytes × Binding)) (bn:Nat) (bt:Nat) (n:Int) (t:Bytes) (w:World) (rowsR:RO [x,m,s,bn,bt] w rowsA (rows.flatMap SRow.enc)) (hT:Tab [x,m,s,bn,bt] w) (q0:rows.length≤1000) (q1:calls≤990000) (q2:R45.Dist rows) (q3:∀ x∈rows,x.Key.length≤1000000) (q4:n≤300) (q5:t.length≤20) (q6:0≤n) (hg:Give [x,m,s,bn,bt] w [Ent.blk x 82 [Value.iface 41 (pB s 0),vS parm,Value.map (some m),vI 0,vB false,vL none 0 0,vL none 0 0],Ent.mp vS m (dds.map R45.bindE),Ent.blk s 52 [vL rowsA rows.length rowsC,vI 0,vI 0,vI ((calls:Nat):Int)],Ent.blk bn 3 [vI n],Ent.blk bt 9 [vS t]]):Calls Tryz.prog 93 #[pB x 0,vL none 0 0,pB bn 0,pB bt 0] w (GivesE [x,m,s,bn,bt] w (fun v L=>∃ ch:List Change,∃ chA:Option Addr,∃ chC:Nat,∃ ln:List Bytes,∃ lnA:Option Addr,∃ lnC:Nat,∃ c2:Nat,v=Value.tuple #[]∧L=[Ent.blk x 82 [Value.iface 41 (pB s 0),vS parm,Value.map (some m),vI 0,vB false,vL chA ch.length chC,vL lnA ln.length lnC],Ent.mp vS m (dds.map R45.bindE),Ent.blk s 52 [vL rowsA rows.length rowsC,vI 0,vI 0,vI ((c2:Nat):Int)],Ent.row (.slice chA ch.length chC) 60 5 ch.length (ch.flatMap Change.enc),Ent.row (.slice lnA ln.length lnC) 9 1 ln.length (ln.map vS)]∧(R45.WrJ (R45.outB dds) (R45.genL t n.toNat) ch)∧(ln=[R45.countS n.toNat++[]])∧(c2≤calls+rows.length+1)) (fun c L=>∃ line:Bytes,c=R45.pan line∧L=[]∧(¬ (R45.SeqB (R45.outB dds)∧n≤290)))):=by
 refine calls_JE [x,m,s,bn,bt] 25 Tryz.func93 rfl Tryz.ntmps93 [(0,_),(1,_),(2,_),(3,_)] rfl rfl hg ?_
 refine q_ (g_ (s_ av_ (z_ (n_ (q_ (q_ (g_ (r_ (ld_ 3 Ty.sc3) (s_ mv_ (z_ (n_ (k_ ?_))))))))))))
 refine J_loop (X:=Nat × (List Bytes) × (Option Addr) × Nat) (fun (⟨i,l,lA,lC⟩:Nat × (List Bytes) × (Option Addr) × Nat)=>((i:Int)≤n)∧(l=R45.genL t i)) (fun (⟨i,l,lA,lC⟩:Nat × (List Bytes) × (Option Addr) × Nat)=>[(0,pB x 0),(3,pB bt 0),(6,vL lA l.length lC),(8,vI n),(9,vI ((i:Nat):Int))]) (fun (⟨i,l,lA,lC⟩:Nat × (List Bytes) × (Option Addr) × Nat)=>[Ent.blk x 82 [Value.iface 41 (pB s 0),vS parm,Value.map (some m),vI 0,vB false,vL none 0 0,vL none 0 0],Ent.mp vS m (dds.map R45.bindE),Ent.blk s 52 [vL rowsA rows.length rowsC,vI 0,vI 0,vI ((calls:Nat):Int)],Ent.blk bn 3 [vI n],Ent.blk bt 9 [vS t],Ent.row (.slice lA l.length lC) 9 1 l.length (l.map vS)]) (fun (⟨i,l,lA,lC⟩:Nat × (List Bytes) × (Option Addr) × Nat)=>n.toNat-i) ((0,([]:List Bytes),none,0):Nat × (List Bytes) × (Option Addr) × Nat) ?_ ⟨rfl,rfl,rfl,rfl,rfl,trivial⟩ (fun _ h=>((((((h.nilrow 9 1).front 5 _ rfl).front 5 _ rfl).front 5 _ rfl).front 5 _ rfl).front 5 _ rfl).keep [true,true,true,true,true,true] rfl) ?_
 ·try dsimp only
  refine ⟨?_,?_⟩
  ·first | rfl | omega | (simp_all;done) | (simp_all;omega)
  ·rfl
 rintro ⟨i,l,lA,lC⟩ hI1
 obtain ⟨i1_0,i1_1⟩:=hI1
 try dsimp only at i1_0
 try dsimp only at i1_1
 have hll:l.length=i:=by rw [i1_1];exact R45.gen_len t i
 have hdl:=R45.dec_posI (10001+(i:Int))
 have hdm:=R45.sub1_len (10001+(i:Int)) (by omega)
 try dsimp only
 refine q_ (g_ (s_ (x_lss_i rfl rfl) (z_ (n_ (q_ ?_)))))
 refine ifd (fun h1w h1=>?_) (fun h1w h1=>?_)
 ·refine sk_ (n_ (q_ (k_ (q_ (g_ (s_ mv_ (s_ av_ (z_ (n_ ?_)))))))))
  refine drU [Ent.blk x 82 [Value.iface 41 (pB s 0),vS parm,Value.map (some m),vI 0,vB false,vL none 0 0,vL none 0 0],Ent.mp vS m (dds.map R45.bindE),Ent.blk s 52 [vL rowsA rows.length rowsC,vI 0,vI 0,vI ((calls:Nat):Int)],Ent.blk bn 3 [vI n],Ent.blk bt 9 [vS t]] [8] 10 Ty.mixed ?_
  refine jp_ 0 rfl mv_ (jq_ 1 rfl (ld_ 4 Ty.sc9) (jp_ 2 rfl mv_ (jp_ 3 rfl (x_add_n (a:=10001) (b:=i) rfl rfl (by omega)) (j1_ 4 (jc0_ rfl (cl_ Ty.ca19) (fun w hS=>itoa_ok _ w (hT.on hS (fun _ h=>by cases h)) hy_ hy_) ?_) (fun _ h=>⟨h.keep [true,true,true,true,true,false] rfl,fun _=>h⟩)))))
  have ha2:=R45.dec_lenI ((10001+i:Nat):Int) (by omega)
  refine jp_ 5 rfl (x_sub_s (lo:=1) (hi:=(Lib.decDigits ((10001+i:Nat):Int).toNat).length) rfl Tryz.underlying9 (.inl rfl) (.inr ⟨rfl,rfl⟩) lt_ (by first | omega | (simp only [sub,List.length_drop,List.length_take];omega) | (simp;omega) | (simp_all;omega))) (jp_ 6 rfl (x_cat_s rfl rfl (by first | omega | (simp only [List.length_append,List.length_cons,List.length_nil];omega) | (simp;omega) | (simp_all;omega))) (j1_ 7 (jio_ rfl (O_buildSlice (cs:=[vS (t++(sub (Lib.decDigits ((10001+i:Nat):Int).toNat) 1 ((Lib.decDigits ((10001+i:Nat):Int).toNat).length)))]) Tryz.underlying25 Ty.sz9 Ty.ze9 (by decide) (by decide) (by kernel_rfl) fun b4=>?_)) (fun _ h=>⟨h.keep [true,true,true,true,true,false] rfl,fun _=>h⟩)))
  refine j1_ 8 (jio_ rfl (O_append_m 6 vS l [t++(sub (Lib.decDigits ((10001+i:Nat):Int).toNat) 1 ((Lib.decDigits ((10001+i:Nat):Int).toNat).length))] Tryz.underlying25 Ty.sz9 Ty.by9 Ty.ze9 rfl rfl rfl rfl rfl (fun _=>rfl) (cells_blk 0 (off:=0) (m:=1) rfl rfl) lt_ lt_ fun A7 c8=>?_)) (fun _ h=>⟨h.keep [false,true,true,true,true,true,false] rfl,fun _=>h.keep [false,true,true,true,true,true,true] rfl⟩)
  refine jp_ 9 rfl av_ ?_
  refine JA_done (by kernel_rfl) (gl_ rfl (fun _ h=>h.keep [false,true,true,true,true,true,false] rfl)) ?_
  refine kx_ (n_ (g_ (s_ (x_add_n (a:=i) (b:=1) rfl rfl (by omega)) (s_ mv_ (z_ ?_)))))
  refine JX_round ((i+1,l++[t++(sub (Lib.decDigits ((10001+i:Nat):Int).toNat) 1 ((Lib.decDigits ((10001+i:Nat):Int).toNat).length))],A7,c8):Nat × (List Bytes) × (Option Addr) × Nat) ?_ ?_ ⟨rfl,rfl,rfl,rfl,rfl,trivial⟩ (fun _ h=>h.keep [false,true,true,true,true,true,true] rfl)
  ·try dsimp only
   refine ⟨?_,?_⟩
   ·first | rfl | omega | (simp_all;done) | (simp_all;omega)
   ·rw [i1_1];exact R45.gen_stepS t i
  ·try dsimp only
   first | omega | (simp;omega) | (simp_all;omega)
 ·refine J_exit (ne_ (re_ (kh_ (n_ (g_ ?_)))))
  refine s_ mv_ (s_ mv_ ?_)
  refine JO_callP [x,m,s] [Ent.blk x 82 [Value.iface 41 (pB s 0),vS parm,Value.map (some m),vI 0,vB false,vL none 0 0,vL none 0 0],Ent.mp vS m (dds.map R45.bindE),Ent.blk s 52 [vL rowsA rows.length rowsC,vI 0,vI 0,vI ((calls:Nat):Int)]] [Ent.blk bn 3 [vI n],Ent.blk bt 9 [vS t],Ent.row (.slice lA l.length lC) 9 1 l.length (l.map vS)] rfl trivial (fun _=>x_call Ty.ca56 rfl) (fun _ h=>h) (own_mem rfl) (fun w hS=>f56_ok x s parm m rows rowsA rowsC calls dds l lA lC [] w (rowsR.on hS (own_mem rfl)) (RO.of_rowS hS (own_mem rfl) 2 rfl) (hT.on hS (own_mem rfl)) hy_ hy_ hy_ hy_ hy_ (by exact fun j=>by rw [i1_1];exact R45.gen_each t i (by omega) q5 j) hy_ (hS.give (own_in rfl))) ?_ ?_
  ·rintro _ _ ⟨line9,rfl,rfl,hp10⟩
   refine JX_pan [] (fun _ h=>h.keep [false,false,false] rfl) (fun _ _ h=>h) ⟨line9,rfl,?_,?_⟩
   ·rfl
   ·rw [show n=(l.length:Int) by rw [i1_1,R45.gen_len];omega]
    exact fun h=>absurd (⟨h.1,by omega⟩:_∧l.length≤290) (by assumption)
  rintro _ _ ⟨ch11,chA12,chC13,ln14,lnA15,lnC16,e17,rfl,rfl,hf18,hf19,hf20⟩
  refine z_ (JX_En ?_)
  refine JX_end0 Tryz.results93 [Ent.blk x 82 [Value.iface 41 (pB s 0),vS parm,Value.map (some m),vI 0,vB false,vL chA12 ch11.length chC13,vL lnA15 ln14.length lnC16],Ent.mp vS m (dds.map R45.bindE),Ent.blk s 52 [vL rowsA rows.length rowsC,vI 0,vI 0,vI ((e17:Nat):Int)],Ent.row (.slice chA12 ch11.length chC13) 60 5 ch11.length (ch11.flatMap Change.enc),Ent.row (.slice lnA15 ln14.length lnC16) 9 1 ln14.length (ln14.map vS)] (fun _ h=>h.keep [true,true,true,true,true,false,false,false] rfl) ⟨ch11,chA12,chC13,ln14,lnA15,lnC16,e17,?_,?_,?_,?_,?_⟩
  ·rfl
  ·rfl
  ·rw [show n.toNat=i by omega,← i1_1]
   assumption
  ·rw [show n.toNat=l.length by rw [i1_1,R45.gen_len];omega]
   assumption
  ·assumption
set_option maxRecDepth 20000 in
theorem f52_ok (x:Nat) (s:Nat) (parm:Bytes) (m:Nat) (rc:List Rw) (rcA:Option Addr) (rcC:Nat) (w:World) (rcR:RO [x] w rcA (rc.flatMap Rw.enc)) (rcN:∀ i:Nat,RO [x] w (rc.getD i default).sA (((rc.getD i default).s).map vS)) (hT:Tab [x] w) (q0:rc.length=2) (q1:((rc.getD 0 default).s).length≤1000000) (q2:((rc.getD 1 default).s).length≤1000000) (hg:Give [x] w [Ent.blk x 82 [Value.iface 41 (pB s 0),vS parm,Value.map (some m),vI 0,vB false,vL none 0 0,vL none 0 0]]):Calls Tryz.prog 52 #[pB x 0,vL rcA rc.length rcC] w (Gives [x] w fun v L=>∃ cd:Int,∃ ln:List Bytes,∃ lnA:Option Addr,∃ lnC:Nat,v=Value.tuple #[]∧L=[Ent.blk x 82 [Value.iface 41 (pB s 0),vS parm,Value.map (some m),vI cd,vB false,vL none 0 0,vL lnA ln.length lnC],Ent.row (.slice lnA ln.length lnC) 9 1 ln.length (ln.map vS)]∧(cd=R45.cmpC ((rc.getD 0 default).s) ((rc.getD 1 default).s))∧(ln=R45.cmpL ((rc.getD 0 default).s) ((rc.getD 1 default).s))):=by
 refine calls_J [x] 12 Tryz.func52 rfl Tryz.ntmps52 [(0,_),(1,_)] rfl rfl hg ?_
 refine drU [] [7] 8 Ty.mixed ?_
 refine jp_ 0 rfl mv_ (jp_ 1 rfl mv_ (jq_ 2 rfl (ixF (k:=0) Rw.enc_len (cells_ro rcR) Tryz.underlying102 Ty.sz25) (jq_ 3 rfl (ldF (k:=0) 0 Rw.enc_len (cells_ro rcR) Ty.sc25) (jp_ 4 rfl mv_ (jq_ 5 rfl (ixF (k:=1) Rw.enc_len (cells_ro rcR) Tryz.underlying102 Ty.sz25) (jq_ 6 rfl (ldF (k:=1) 0 Rw.enc_len (cells_ro rcR) Ty.sc25) (j1_ 7 ?_ (fun _ h=>⟨h.keep [false] rfl,fun _=>h⟩))))))))
 refine JI_call [x] [Ent.blk x 82 [Value.iface 41 (pB s 0),vS parm,Value.map (some m),vI 0,vB false,vL none 0 0,vL none 0 0]] [] rfl rfl trivial (fun _=>x_call Ty.ca53 rfl) (fun _ h=>h) (own_mem rfl) (fun w hS=>f53_ok x s parm m ((rc.getD 0 default).s) ((rc.getD 0 default).sA) ((rc.getD 0 default).sC) ((rc.getD 1 default).s) ((rc.getD 1 default).sA) ((rc.getD 1 default).sC) w ((rcN 0).on hS (own_mem rfl)) ((rcN 1).on hS (own_mem rfl)) (hT.on hS (own_mem rfl)) hy_ hy_ (hS.give (own_in rfl))) ?_
 rintro _ _ ⟨cd1,ln2,lnA3,lnC4,rfl,rfl,hf5,hf6⟩
 refine JA_done (by kernel_rfl) (gl_ rfl (fun _ h=>h.keep [false,false] rfl)) ?_
 refine JX_end0 Tryz.results52 [Ent.blk x 82 [Value.iface 41 (pB s 0),vS parm,Value.map (some m),vI cd1,vB false,vL none 0 0,vL lnA3 ln2.length lnC4],Ent.row (.slice lnA3 ln2.length lnC4) 9 1 ln2.length (ln2.map vS)] (fun _ h=>h) ⟨cd1,ln2,lnA3,lnC4,?_,?_,?_,?_⟩
 ·rfl
 ·rfl
 ·assumption
 ·assumption
end Go.Proofs.YtggobegaiijhhaaGreatDoor
namespace Go.Proofs.YtggobegaiijhhaaGreatDoor
open Go.GV
namespace R45
theorem recV_len2 {rows:List SRow} {b:Binding} (h:rows.length≤1000) (h2:b.Lines.length≤1000):(recV rows b).length≤1000:=by
  unfold recV
  split
  · exact h2
  · split
    · simp
    · unfold recs;rw [List.length_map];have:=above_len rows b.EData.Id [];omega
theorem ff {a b:Bool} (h:a=true) (h2:b=a) (h3:b=false):False:=by rw [h2,h] at h3;cases h3
theorem outB2 (b c:Binding):outB [(IN,b),(OUT,c)]=c:=rfl
theorem GenP.bd {s t:Bytes} {n:Int} {ok:Bool} (h:GenP s n t ok) (hk:ok=true):0≤n∧n≤300∧t.length≤20:=(h.1 hk).2
def gN:Bytes:=[103,101,110,101,114,97,116,101]
def cpN:Bytes:=[99,111,112,121]
def GenR (parm:Bytes) (l:List Binding) (cd:Int) (ch:List Change) (ln:List Bytes):Prop:=
  0≤findI OUT l∧cd=0 ∧ ∃ n t,parmG parm=some (n,t)∧WrJ (bd l OUT) (genL t n.toNat) ch∧ln=[countS n.toNat++[]]
def GenOk (parm:Bytes) (l:List Binding):Prop:=
  0≤findI OUT l∧wrV gN (bd l OUT)=true ∧ ∃ n t,parmG parm=some (n,t)∧SeqB (bd l OUT)∧n≤290
theorem gen_noP {parm:Bytes} {l:List Binding} {n:Int} {t:Bytes} {ok:Bool} (h:GenP parm n t ok) (hk:ok=false):¬ GenOk parm l:=fun ⟨_,_,n',t',h2,_⟩=>by rw [h.2 hk] at h2;cases h2
theorem gen_noW {parm:Bytes} {l:List Binding} {n:Int} {t:Bytes} {ok:Bool} (h:GenP parm n t ok) (hk:ok=true) (hw:¬ (SeqB (bd l OUT)∧n≤290)):¬ GenOk parm l:=fun ⟨_,_,n',t',h2,h3,h4⟩=>by
  rw [(h.1 hk).1] at h2;cases h2;exact hw ⟨h3,h4⟩
theorem gen_yes {parm:Bytes} {l:List Binding} {n:Int} {t:Bytes} {ok:Bool} {ch:List Change} {ln:List Bytes} (h0:0≤findI OUT l) (h:GenP parm n t ok) (hk:ok=true) (hw:WrJ (bd l OUT) (genL t n.toNat) ch) (hl:ln=[countS n.toNat++[]]):GenR parm l 0 ch ln:=
  ⟨h0,rfl,n,t,(h.1 hk).1,hw,hl⟩
def CmpR (rows:List SRow) (l:List Binding) (cd:Int) (ch:List Change) (ln:List Bytes):Prop:=
  0≤findI IN1 l∧0≤findI IN2 l∧ch=[]∧cd=cmpC (recV rows (bd l IN1)) (recV rows (bd l IN2))∧ln=cmpL (recV rows (bd l IN1)) (recV rows (bd l IN2))
def CmpOk (l:List Binding):Prop:=0≤findI IN1 l∧0≤findI IN2 l
def CpyR (rows:List SRow) (l:List Binding) (cd:Int) (ch:List Change) (ln:List Bytes):Prop:=
  0≤findI IN l∧0≤findI OUT l∧cd=0∧WrJ (bd l OUT) (recV rows (bd l IN)) ch∧ln=[countS (recV rows (bd l IN)).length++[]]
def CpyOk (rows:List SRow) (l:List Binding):Prop:=
  0≤findI IN l∧0≤findI OUT l∧wrV cpN (bd l OUT)=true∧SeqB (bd l OUT)∧(recV rows (bd l IN)).length≤290
theorem rec_len (o:List Bytes) {rows:List SRow} {b:Binding} (h:o=recV rows b) (h1:rows.length≤1000) (h2:b.Lines.length≤1000):o.length≤1000:=by rw [h];exact recV_len2 h1 h2
theorem rec_lenB (o:List Bytes) {n:Nat} (h:o.length≤1000) (hn:1000≤n):o.length≤n:=Nat.le_trans h hn
theorem rec_each (o:List Bytes) {rows:List SRow} {b:Binding} (h:o=recV rows b) (h1:∀ x∈rows,x.Record.length≤1000000) (h2:∀ i,(b.Lines.getD i []).length≤1000000):∀ j,(o.getD j []).length≤1000000:=by rw [h];exact recV_each h1 h2
theorem cmp_yes {rows:List SRow} {l:List Binding} {a b:List Bytes} {cd:Int} {ln:List Bytes} (h0:0≤findI IN1 l) (h1:0≤findI IN2 l) (hc:cd=cmpC a b) (hl:ln=cmpL a b) (ha:a=recV rows (bd l IN1)) (hb:b=recV rows (bd l IN2)):CmpR rows l cd [] ln:=by
  rw [ha,hb] at hc hl;exact ⟨h0,h1,rfl,hc,hl⟩
end R45
end Go.Proofs.YtggobegaiijhhaaGreatDoor
namespace Go.Proofs.YtggobegaiijhhaaGreatDoor
open Go.GV
namespace R45
def ChI (id:Int) (c:Change):Prop:=c.Id=id∧c.Volume=[]∧c.Kind≤3
def ErJ (id:Int) (k:Nat) (ch:List Change):Prop:=ch.length≤k ∧ ∀ c∈ch,ChI id c
theorem ErJ.start {id:Int} : ErJ id 0 []:=⟨Nat.le_refl _,fun c hc=>by cases hc⟩
theorem ErJ.skip {id:Int} {k:Nat} {ch:List Change} (h:ErJ id k ch):ErJ id (k+1) ch:=⟨by have:=h.1;omega,h.2⟩
theorem ErJ.add {id:Int} {k:Nat} {ch:List Change} {key:Bytes} (h:ErJ id k ch):ErJ id (k+1) (ch++[⟨1,id,key,[],[]⟩]):=by
  refine ⟨by have:=h.1;rw [List.length_append,List.length_singleton];omega,fun c hc=>?_⟩
  rcases List.mem_append.1 hc with hc | hc
  · exact h.2 c hc
  · rw [List.mem_singleton.1 hc];exact ⟨rfl,rfl,show (1:Int)≤3 by decide⟩
def erN:Bytes:=[101,114,97,115,101]
end R45
end Go.Proofs.YtggobegaiijhhaaGreatDoor
namespace Go.Proofs.YtggobegaiijhhaaGreatDoor
open Go.GV
set_option linter.unusedVariables false
set_option linter.unusedSimpArgs false
end Go.Proofs.YtggobegaiijhhaaGreatDoor
namespace Go.Proofs.YtggobegaiijhhaaGreatDoor
open Go.GV
structure SortField where
  At:Int
  Length:Int
  Kind:Int
  Descending:Bool
deriving DecidableEq,Inhabited
def SortField.enc (a:SortField):List Value:=[vI a.At,vI a.Length,vI a.Kind,vB a.Descending]
theorem SortField.enc_len (a:SortField):(SortField.enc a).length=4:=rfl
theorem SortField.enc_one (a:SortField):(SortField.enc a).all Value.oneCell'=true:=rfl
structure SortPlan where
  Memory:Int
  Fan:Int
deriving DecidableEq,Inhabited
def SortPlan.enc (a:SortPlan):List Value:=[vI a.Memory,vI a.Fan]
theorem SortPlan.enc_len (a:SortPlan):(SortPlan.enc a).length=2:=rfl
theorem SortPlan.enc_one (a:SortPlan):(SortPlan.enc a).all Value.oneCell'=true:=rfl
structure SortWork where
  Runs:Int
  Passes:Int
  Dropped:Int
deriving DecidableEq,Inhabited
def SortWork.enc (a:SortWork):List Value:=[vI a.Runs,vI a.Passes,vI a.Dropped]
theorem SortWork.enc_len (a:SortWork):(SortWork.enc a).length=3:=rfl
theorem SortWork.enc_one (a:SortWork):(SortWork.enc a).all Value.oneCell'=true:=rfl
structure element where
  run:Int
  no:Int
  record:Bytes
deriving DecidableEq,Inhabited
def element.enc (a:element):List Value:=[vI a.run,vI a.no,vS a.record]
theorem element.enc_len (a:element):(element.enc a).length=3:=rfl
theorem element.enc_one (a:element):(element.enc a).all Value.oneCell'=true:=rfl
structure item where
  s:Bytes
  run:Int
  no:Int
deriving DecidableEq,Inhabited
def item.enc (a:item):List Value:=[vS a.s,vI a.run,vI a.no]
theorem item.enc_len (a:item):(item.enc a).length=3:=rfl
theorem item.enc_one (a:item):(item.enc a).all Value.oneCell'=true:=rfl
end Go.Proofs.YtggobegaiijhhaaGreatDoor
namespace Go.Proofs.YtggobegaiijhhaaGreatDoor
open Go.GV Go.RowKit
def rep (s:Bytes):Nat→Bytes
  | 0=>[]
  | c+1=>s++rep s c
theorem rep_lib (s:Bytes):∀ c,Lib.repeatL s c=rep s c
  | 0=>rfl
  | c+1=>congrArg (s ++ ·) (rep_lib s c)
theorem rep_length (s:Bytes):∀ c,(rep s c).length=s.length*c
  | 0=>rfl
  | c+1=>by rw [rep,List.length_append,rep_length s c,Nat.mul_succ,Nat.add_comm]
end Go.Proofs.YtggobegaiijhhaaGreatDoor
namespace Go.Proofs.YtggobegaiijhhaaGreatDoor
open Go.GV
namespace R44
open Srt (Cmp)
def most (k:Int):Int:=if k=0 then 200 else if k=1 then 18 else if k=2 then 8 else 0
def fok (f:SortField):Bool:=decide (0≤f.At)&&decide (f.At≤1000)&&decide (1≤f.Length)&&decide (f.Length≤most f.Kind)&&decide (f.At+f.Length≤1000)
def valid (l:List SortField):Bool:=l.all fok&&decide ((l.length:Int)≤8)
theorem most_le (k:Int):most k≤200:=by unfold most;split <;> (try split) <;> (try split) <;> omega
theorem fok_facts {f:SortField} (h:fok f=true):0≤f.At∧f.At≤1000∧1≤f.Length∧f.Length≤most f.Kind∧f.At+f.Length≤1000:=by
  unfold fok at h
  simp only [Bool.and_eq_true,decide_eq_true_eq] at h
  omega
theorem fok_kind {f:SortField} (h:fok f=true):f.Kind=0∨(f.Kind=1∧f.Length≤18)∨(f.Kind=2∧f.Length≤8):=by
  have h:=(fok_facts h)
  unfold most at h
  by_cases h0:f.Kind=0
  · exact .inl h0
  · rw [if_neg h0] at h
    by_cases h1:f.Kind=1
    · rw [if_pos h1] at h;exact .inr (.inl ⟨h1,by omega⟩)
    · rw [if_neg h1] at h
      by_cases h2:f.Kind=2
      · rw [if_pos h2] at h;exact .inr (.inr ⟨h2,by omega⟩)
      · rw [if_neg h2] at h;omega
theorem valid_facts {l:List SortField} (h:valid l=true):l.length≤8 ∧ ∀ i,i<l.length→fok (l.getD i default)=true:=by
  unfold valid at h
  simp only [Bool.and_eq_true,decide_eq_true_eq,List.all_eq_true] at h
  refine ⟨by omega,fun i hi=>h.1 _ ?_⟩
  rw [List.getD_eq_getElem?_getD,List.getElem?_eq_getElem hi]
  exact List.getElem_mem hi
def fld (s:Bytes) (f:SortField):Bytes:=(List.range f.Length.toNat).map fun j=>s.getD (f.At.toNat+j) 32
def num:Bytes→Int→Option Int
  | [],n=>some n
  | c::r,n=>if 48≤c.toNat∧c.toNat≤57 then num r (10*n+((c.toNat:Int)-48)) else none
def trimL (s:Bytes):Bytes:=s.dropWhile (· == 32)
def trimR (s:Bytes):Bytes:=(s.reverse.dropWhile (· == 32)).reverse
def dec (s:Bytes):Option Int:=if (trimR (trimL s)).head? = some 45 then (if (trimR (trimL s)).tail=[] then none else (num (trimR (trimL s)).tail 0).map fun n=>-n) else if trimR (trimL s)=[] then none else num (trimR (trimL s)) 0
def bin (s:Bytes):Int:=s.tail.foldl (fun n c=>256*n+c.toNat) (int8 (s.headD 0))
def cmpI (x y:Int):Int:=if x<y then -1 else if y<x then 1 else 0
def cmpO:Option Int→Option Int→Int
  | some x,some y=>cmpI x y
  | some _,none=>1
  | none,some _=>-1
  | none,none=>0
def cmpS (a b:Bytes):Int:=if Op.bytesLess a b=true then -1 else if a=b then 0 else 1
def cmpF (f:SortField) (a b:Bytes):Int:=if f.Kind=1 then cmpO (dec (fld a f)) (dec (fld b f)) else if f.Kind=2 then cmpI (bin (fld a f)) (bin (fld b f)) else cmpS (fld a f) (fld b f)
def cmp1 (f:SortField) (a b:Bytes):Int:=if f.Descending=true then -cmpF f a b else cmpF f a b
def cmpL:List SortField→Bytes→Bytes→Int
  | [],_,_=>0
  | f::r,a,b=>if cmp1 f a b≠0 then cmp1 f a b else cmpL r a b
theorem cmpI_ok:Cmp cmpI:=by
  constructor
  · intro a b;unfold cmpI;split <;> split <;> omega
  · intro a b d;unfold cmpI;split <;> split <;> (try split) <;> (try split) <;> (try split) <;> (try split) <;> omega
theorem cmpO_ok:Cmp cmpO:=by
  constructor
  · intro a b
    cases a <;> cases b <;> simp only [cmpO]
    · rfl
    · rfl
    · exact cmpI_ok.anti _ _
  · intro a b d;cases a <;> cases b <;> cases d <;> simp only [cmpO] <;> first | omega | exact cmpI_ok.trans _ _ _
theorem cmpS_lt {a b:Bytes} (h:Ord.lt a b):cmpS a b = -1:=if_pos h
theorem cmpS_self (a:Bytes):cmpS a a=0:=(if_neg (Ord.irr a)).trans (if_pos rfl)
theorem cmpS_gt {a b:Bytes} (h:Ord.lt b a):cmpS a b=1:=(if_neg (Ord.asymm h)).trans (if_neg fun e=>Ord.irr a (by rw [← e] at h;exact h))
theorem cmpS_le {x y:Bytes} (h:cmpS x y≤0):Ord.lt x y∨x=y:=by
  rcases Ord.tri x y with h2 | h2 | h2
  · exact .inl h2
  · exact .inr h2
  · rw [cmpS_gt h2] at h;omega
theorem cmpS_ok:Cmp cmpS:=by
  constructor
  · intro a b
    rcases Ord.tri a b with h | h | h
    · rw [cmpS_lt h,cmpS_gt h];rfl
    · subst h;rw [cmpS_self];rfl
    · rw [cmpS_lt h,cmpS_gt h]
  · intro a b d h1 h2
    rcases cmpS_le h1 with h1 | rfl
    · rcases cmpS_le h2 with h2 | rfl
      · rw [cmpS_lt (Ord.trans h1 h2)];omega
      · rw [cmpS_lt h1];omega
    · exact h2
theorem cmp_map {α β:Type} {c:α→α→Int} (h:Cmp c) (f:β→α):Cmp fun a b=>c (f a) (f b):=⟨fun _ _=>h.anti _ _,fun _ _ _=>h.trans _ _ _⟩
theorem cmpF_ok (f:SortField):Cmp (cmpF f):=by
  by_cases h1:f.Kind=1
  · have:cmpF f=fun a b=>cmpO (dec (fld a f)) (dec (fld b f)):=by funext a b;unfold cmpF;rw [if_pos h1]
    rw [this];exact cmp_map cmpO_ok _
  · by_cases h2:f.Kind=2
    · have:cmpF f=fun a b=>cmpI (bin (fld a f)) (bin (fld b f)):=by funext a b;unfold cmpF;rw [if_neg h1,if_pos h2]
      rw [this];exact cmp_map cmpI_ok _
    · have:cmpF f=fun a b=>cmpS (fld a f) (fld b f):=by funext a b;unfold cmpF;rw [if_neg h1,if_neg h2]
      rw [this];exact cmp_map cmpS_ok _
theorem cmp1_ok (f:SortField):Cmp (cmp1 f):=by
  have h:=cmpF_ok f
  constructor
  · intro a b;unfold cmp1;have:=h.anti a b;split <;> omega
  · intro a b d;unfold cmp1;split
    · have h1:=h.trans d b a;have:=h.anti a b;have:=h.anti b d;have:=h.anti a d
      intro h2 h3;have:=h1 (by omega) (by omega);omega
    · exact h.trans a b d
theorem cmpL_ok:∀ l:List SortField,Cmp (cmpL l)
  | []=>⟨fun _ _=>rfl,fun _ _ _ _ _=>Int.le_refl 0⟩
  | f::r=>by
    have h:=cmp1_ok f
    have ih:=cmpL_ok r
    constructor
    · intro a b
      have:=h.anti a b
      unfold cmpL
      by_cases h0:cmp1 f a b=0
      · rw [if_neg (by omega),if_neg (by omega)];exact ih.anti a b
      · rw [if_pos (by omega),if_pos h0];exact this
    · intro a b d h1 h2
      unfold cmpL at *
      have t:=h.trans a b d
      by_cases h3:cmp1 f a b=0
      · rw [if_neg (by omega)] at h1
        by_cases h4:cmp1 f b d=0
        · rw [if_neg (by omega)] at h2
          have t2:=h.trans d b a (by have:=h.anti b d;omega) (by have:=h.anti a b;omega)
          have:=h.anti a d
          rw [if_neg (by have:=t (by omega) (by omega);omega)]
          exact ih.trans _ _ _ h1 h2
        · rw [if_pos h4] at h2
          have:=h.le_lt (a:=a) (b:=b) (d:=d) (by omega) (by omega)
          rw [if_pos (by omega)];omega
      · rw [if_pos h3] at h1
        have h5:cmp1 f b d≤0:=by
          by_cases h4:cmp1 f b d=0
          · omega
          · rw [if_pos h4] at h2;exact h2
        have:=h.lt_le (a:=a) (b:=b) (d:=d) (by omega) h5
        rw [if_pos (by omega)];omega
def Tri (n:Int):Prop:=n = -1∨n=0∨n=1
theorem cmpI_tri (x y:Int):Tri (cmpI x y):=by unfold cmpI Tri;split <;> (try split) <;> omega
theorem cmpO_tri (x y:Option Int):Tri (cmpO x y):=by
  cases x <;> cases y <;> simp only [cmpO]
  · exact .inr (.inl rfl)
  · exact .inl rfl
  · exact .inr (.inr rfl)
  · exact cmpI_tri _ _
theorem cmpS_tri (x y:Bytes):Tri (cmpS x y):=by unfold cmpS Tri;split <;> (try split) <;> omega
theorem cmpF_tri (f:SortField) (a b:Bytes):Tri (cmpF f a b):=by
  unfold cmpF;split
  · exact cmpO_tri _ _
  · split
    · exact cmpI_tri _ _
    · exact cmpS_tri _ _
theorem cmp1_tri (f:SortField) (a b:Bytes):Tri (cmp1 f a b):=by
  have:=cmpF_tri f a b
  unfold cmp1;split
  · unfold Tri at *;omega
  · exact this
theorem cmpL_tri:∀ (l:List SortField) (a b:Bytes),Tri (cmpL l a b)
  | [],_,_=>.inr (.inl rfl)
  | f::r,a,b=>by
    unfold cmpL;split
    · exact cmp1_tri f a b
    · exact cmpL_tri r a b
end R44
end Go.Proofs.YtggobegaiijhhaaGreatDoor
