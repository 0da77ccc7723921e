/- Pl45f, C45g, Pl45g in one text. -/
import Derived.Test.YtggobegaiijhhaaGreatDoorC45w
set_option linter.unusedVariables false
set_option linter.unusedSimpArgs false
set_option maxRecDepth 20000
namespace Go.Proofs.YtggobegaiijhhaaGreatDoor
open Go.GV
namespace R45
def numV (s:Bytes) (most:Int):Option Int:=match Lib.atoiAll s with
  | .ok n=>if 0≤n∧n≤most∧Lib.decDigits n.toNat=s then some n else none
  | _=>none
theorem NumJ.yes {s:Bytes} {most n:Int} {ok:Bool} (h:NumJ s most n ok) (hk:ok=true):numV s most=some n:=by
  obtain ⟨er,h1,h2⟩:=h
  rw [hk] at h2
  have h2:=h2.symm
  simp only [Bool.and_eq_true,decide_eq_true_eq] at h2
  unfold numV
  rw [h1.1 h2.1.1.1]
  exact if_pos ⟨h2.1.1.2,h2.1.2,h2.2⟩
theorem NumJ.no {s:Bytes} {most n:Int} {ok:Bool} (h:NumJ s most n ok) (hk:ok=false):numV s most=none:=by
  obtain ⟨er,h1,h2⟩:=h
  unfold numV
  cases er with
  | false =>
    have:=h1.2.1 rfl
    cases ha:Lib.atoiAll s with
    | ok n=>exact absurd ha (this n)
    | range=>rfl
    | _=>rfl
  | true =>
    rw [h1.1 rfl]
    refine if_neg fun hc=>?_
    rw [hk] at h2
    have h2:=h2.symm
    simp [hc.1,hc.2.1,hc.2.2] at h2
def parmG (s:Bytes):Option (Int × Bytes):=match cutB 32 s with
  | some (a,t)=>match numV a 300 with
    | some n=>if t≠[]∧t.length≤20∧(32:UInt8)∉t then some (n,t) else none
    | none=>none
  | none=>none
def GenP (s:Bytes) (n:Int) (t:Bytes) (ok:Bool):Prop:=(ok=true→parmG s=some (n,t)∧0≤n∧n≤300∧t.length≤20)∧(ok=false→parmG s=none)
theorem genP {s a t:Bytes} {n:Int} {o is:Bool} (h1:o=true→cutB 32 s=some (a,t)) (h2:o=false→cutB 32 s=none) (h3:NumJ a 300 n is):GenP s n t ((((o&&is)&&decide (t≠[]))&&decide ((t.length:Int)≤20)) && !decide ((32:UInt8)∈t)):=by
  refine ⟨fun h=>?_,fun h=>?_⟩
  · simp only [Bool.and_eq_true,decide_eq_true_eq,Bool.not_eq_true',decide_eq_false_iff_not] at h
    obtain ⟨⟨⟨⟨ho,hi⟩,ht⟩,hl⟩,hn⟩:=h
    have:=h3.bd.1 hi
    refine ⟨?_,this.1,this.2,by omega⟩
    unfold parmG
    simp only [h1 ho,h3.yes hi]
    exact if_pos ⟨ht,by omega,hn⟩
  · unfold parmG
    cases o with
    | false=>rw [h2 rfl]
    | true =>
      simp only [h1 rfl]
      cases is with
      | false=>simp only [h3.no rfl]
      | true =>
        simp only [h3.yes rfl]
        refine if_neg fun hc=>?_
        have:((t.length:Nat):Int)≤20:=by have:=hc.2.1;omega
        simp [hc.1,hc.2.2,this] at h
def genL (t:Bytes) (n:Nat):List Bytes:=(List.range n).map (genS t)
theorem gen_step (t:Bytes) (n:Nat):genL t n++[genS t n]=genL t (n+1):=by unfold genL;rw [List.range_succ,List.map_append];rfl
theorem gen_len (t:Bytes) (n:Nat):(genL t n).length=n:=by unfold genL;simp
theorem gen_each (t:Bytes) (n:Nat) (h:n≤300) (ht:t.length≤20) (i:Nat):((genL t n).getD i []).length≤1000000:=by
  by_cases hi:i<n
  · rw [List.getD_eq_getElem?_getD,List.getElem?_eq_getElem (by rw [gen_len];exact hi)]
    unfold genL
    simp only [List.getElem_map,List.getElem_range,Option.getD_some,genS,List.length_append,List.length_drop]
    have:=R44.dec_len19 (n:=10001+i) (by omega)
    omega
  · rw [List.getD_eq_getElem?_getD,List.getElem?_eq_none (by rw [gen_len];omega)];simp
theorem dec_pos (n:Nat):1≤(Lib.decDigits n).length:=by
  unfold Lib.decDigits
  split <;> simp
theorem dec_posI (n:Int):1≤(Lib.decDigits n.toNat).length:=dec_pos _
theorem sub1 (s:Bytes):sub s 1 s.length=s.drop 1:=by unfold sub;rw [List.take_of_length_le (by simp)]
theorem sub1_len (n:Int) (h:n≤11000):(sub (Lib.decDigits n.toNat) 1 (Lib.decDigits n.toNat).length).length≤19:=by
  rw [sub1,List.length_drop];have:=R44.dec_len19 (n:=n.toNat) (by omega);omega
theorem gen_stepS (t:Bytes) (i:Nat):genL t i++[t++sub (Lib.decDigits ((10001+i:Nat):Int).toNat) 1 (Lib.decDigits ((10001+i:Nat):Int).toNat).length]=genL t (i+1):=by
  rw [sub1,← gen_step];rfl
def bd (l:List Binding) (dd:Bytes):Binding:=l.getD (findI dd l).toNat default
def IN:Bytes:=[73,78]
def IN1:Bytes:=[73,78,49]
def IN2:Bytes:=[73,78,50]
def OUT:Bytes:=[79,85,84]
theorem recV_each {rows:List SRow} {b:Binding} {n:Nat} (h:∀ x∈rows,x.Record.length≤n) (h2:∀ i,(b.Lines.getD i []).length≤n) (i:Nat):((recV rows b).getD i []).length≤n:=by
  unfold recV
  split
  · exact h2 i
  · split
    · simp
    · unfold recs
      by_cases hi:i<(above rows b.EData.Id []).length
      · rw [List.getD_eq_getElem?_getD,List.getElem?_eq_getElem (by rw [List.length_map];exact hi),List.getElem_map]
        exact h _ (above_mem.1 (List.getElem_mem hi)).1
      · rw [List.getD_eq_getElem?_getD,List.getElem?_eq_none (by rw [List.length_map];omega)];simp
end R45
end Go.Proofs.YtggobegaiijhhaaGreatDoor
namespace Go.Proofs.YtggobegaiijhhaaGreatDoor
open Go.GV Go.Proofs.Tryz Ty
open Go.GV.Ent (blk row mp)
theorem f43_ok (x:Nat) (w:World):Calls prog 43 #[pB x 0] w (Gives [] w fun v L=>v=vB true∧L=[]):=by
 refine calls_J [] 3 func43 rfl ntmps43 [(0,_)] rfl rfl (Give.nil w) ?_
 refine q_ (g_ (s_ av_ (z_ (n_ (q_ (g_ (s_ av_ (z_ (n_ (rt_ ?_))))))))))
 exact p1 results43 rfl ⟨rfl,rfl⟩
theorem f32_ok (w:World):Calls prog 32 #[] w (Gives [] w fun v L=>∃ pm:Nat,∃ tb:Nat,v=Value.map (some pm)∧L=[mp vS pm [([97,98,101,110,100],(fC_ 44 tb)),([99,111,100,101],(fN_ 47)),([99,111,109,112,97,114,101],(fC_ 51 tb)),([99,111,112,121],(fC_ 54 tb)),([99,111,117,110,116],(fC_ 57 tb)),([101,114,97,115,101],(fC_ 61 tb)),([103,101,110,101,114,97,116,101],(fN_ 64)),([109,101,114,103,101],(fN_ 65)),([112,114,105,110,116],(fC_ 66 tb)),([115,101,108,101,99,116],(fN_ 69)),([115,111,114,116],(fN_ 70))],blk tb 94 [(fN_ 43)]]):=by
 refine calls_J [] 10 func32 rfl ntmps32 [] rfl rfl (Give.nil w) ?_
 refine q_ (g_ (s_ av_ (z_ (n_ (q_ (g_ (o_ (al_ ze94 fun b1=>?_))))))))
 refine o_ (st1 0 sz94 ?_)
 refine z_ (n_ (q_ (g_ (o_ (O_makeMap vS fun b2=>?_)))))
 refine js_ ((fC_ 44 b1)) (x_makeFunc rfl rfl) (o_ (O_insert 0 (f:=vS) (k:=[97,98,101,110,100]) [([97,98,101,110,100],(fC_ 44 b1))] [mp vS b2 [([97,98,101,110,100],(fC_ 44 b1))],blk b1 94 [(fN_ 43)]] rfl rfl rfl rfl underlying89 (mapK_s underlying9) rfl rfl ?_))
 refine o_ (O_insert 0 (f:=vS) (k:=[99,111,100,101]) [([97,98,101,110,100],(fC_ 44 b1)),([99,111,100,101],(fN_ 47))] [mp vS b2 [([97,98,101,110,100],(fC_ 44 b1)),([99,111,100,101],(fN_ 47))],blk b1 94 [(fN_ 43)]] rfl rfl rfl rfl underlying89 (mapK_s underlying9) rfl rfl ?_)
 refine js_ ((fC_ 51 b1)) (x_makeFunc rfl rfl) (o_ (O_insert 0 (f:=vS) (k:=[99,111,109,112,97,114,101]) [([97,98,101,110,100],(fC_ 44 b1)),([99,111,100,101],(fN_ 47)),([99,111,109,112,97,114,101],(fC_ 51 b1))] [mp vS b2 [([97,98,101,110,100],(fC_ 44 b1)),([99,111,100,101],(fN_ 47)),([99,111,109,112,97,114,101],(fC_ 51 b1))],blk b1 94 [(fN_ 43)]] rfl rfl rfl rfl underlying89 (mapK_s underlying9) rfl rfl ?_))
 refine js_ ((fC_ 54 b1)) (x_makeFunc rfl rfl) (o_ (O_insert 0 (f:=vS) (k:=[99,111,112,121]) [([97,98,101,110,100],(fC_ 44 b1)),([99,111,100,101],(fN_ 47)),([99,111,109,112,97,114,101],(fC_ 51 b1)),([99,111,112,121],(fC_ 54 b1))] [mp vS b2 [([97,98,101,110,100],(fC_ 44 b1)),([99,111,100,101],(fN_ 47)),([99,111,109,112,97,114,101],(fC_ 51 b1)),([99,111,112,121],(fC_ 54 b1))],blk b1 94 [(fN_ 43)]] rfl rfl rfl rfl underlying89 (mapK_s underlying9) rfl rfl ?_))
 refine js_ ((fC_ 57 b1)) (x_makeFunc rfl rfl) (o_ (O_insert 0 (f:=vS) (k:=[99,111,117,110,116]) [([97,98,101,110,100],(fC_ 44 b1)),([99,111,100,101],(fN_ 47)),([99,111,109,112,97,114,101],(fC_ 51 b1)),([99,111,112,121],(fC_ 54 b1)),([99,111,117,110,116],(fC_ 57 b1))] [mp vS b2 [([97,98,101,110,100],(fC_ 44 b1)),([99,111,100,101],(fN_ 47)),([99,111,109,112,97,114,101],(fC_ 51 b1)),([99,111,112,121],(fC_ 54 b1)),([99,111,117,110,116],(fC_ 57 b1))],blk b1 94 [(fN_ 43)]] rfl rfl rfl rfl underlying89 (mapK_s underlying9) rfl rfl ?_))
 refine js_ ((fC_ 61 b1)) (x_makeFunc rfl rfl) ?_
 refine o_ (O_insert 0 (f:=vS) (k:=[101,114,97,115,101]) [([97,98,101,110,100],(fC_ 44 b1)),([99,111,100,101],(fN_ 47)),([99,111,109,112,97,114,101],(fC_ 51 b1)),([99,111,112,121],(fC_ 54 b1)),([99,111,117,110,116],(fC_ 57 b1)),([101,114,97,115,101],(fC_ 61 b1))] [mp vS b2 [([97,98,101,110,100],(fC_ 44 b1)),([99,111,100,101],(fN_ 47)),([99,111,109,112,97,114,101],(fC_ 51 b1)),([99,111,112,121],(fC_ 54 b1)),([99,111,117,110,116],(fC_ 57 b1)),([101,114,97,115,101],(fC_ 61 b1))],blk b1 94 [(fN_ 43)]] rfl rfl rfl rfl underlying89 (mapK_s underlying9) rfl rfl ?_)
 refine o_ (O_insert 0 (f:=vS) (k:=[103,101,110,101,114,97,116,101]) [([97,98,101,110,100],(fC_ 44 b1)),([99,111,100,101],(fN_ 47)),([99,111,109,112,97,114,101],(fC_ 51 b1)),([99,111,112,121],(fC_ 54 b1)),([99,111,117,110,116],(fC_ 57 b1)),([101,114,97,115,101],(fC_ 61 b1)),([103,101,110,101,114,97,116,101],(fN_ 64))] [mp vS b2 [([97,98,101,110,100],(fC_ 44 b1)),([99,111,100,101],(fN_ 47)),([99,111,109,112,97,114,101],(fC_ 51 b1)),([99,111,112,121],(fC_ 54 b1)),([99,111,117,110,116],(fC_ 57 b1)),([101,114,97,115,101],(fC_ 61 b1)),([103,101,110,101,114,97,116,101],(fN_ 64))],blk b1 94 [(fN_ 43)]] rfl rfl rfl rfl underlying89 (mapK_s underlying9) rfl rfl ?_)
 refine o_ (O_insert 0 (f:=vS) (k:=[109,101,114,103,101]) [([97,98,101,110,100],(fC_ 44 b1)),([99,111,100,101],(fN_ 47)),([99,111,109,112,97,114,101],(fC_ 51 b1)),([99,111,112,121],(fC_ 54 b1)),([99,111,117,110,116],(fC_ 57 b1)),([101,114,97,115,101],(fC_ 61 b1)),([103,101,110,101,114,97,116,101],(fN_ 64)),([109,101,114,103,101],(fN_ 65))] [mp vS b2 [([97,98,101,110,100],(fC_ 44 b1)),([99,111,100,101],(fN_ 47)),([99,111,109,112,97,114,101],(fC_ 51 b1)),([99,111,112,121],(fC_ 54 b1)),([99,111,117,110,116],(fC_ 57 b1)),([101,114,97,115,101],(fC_ 61 b1)),([103,101,110,101,114,97,116,101],(fN_ 64)),([109,101,114,103,101],(fN_ 65))],blk b1 94 [(fN_ 43)]] rfl rfl rfl rfl underlying89 (mapK_s underlying9) rfl rfl ?_)
 refine js_ ((fC_ 66 b1)) (x_makeFunc rfl rfl) ?_
 refine o_ (O_insert 0 (f:=vS) (k:=[112,114,105,110,116]) [([97,98,101,110,100],(fC_ 44 b1)),([99,111,100,101],(fN_ 47)),([99,111,109,112,97,114,101],(fC_ 51 b1)),([99,111,112,121],(fC_ 54 b1)),([99,111,117,110,116],(fC_ 57 b1)),([101,114,97,115,101],(fC_ 61 b1)),([103,101,110,101,114,97,116,101],(fN_ 64)),([109,101,114,103,101],(fN_ 65)),([112,114,105,110,116],(fC_ 66 b1))] [mp vS b2 [([97,98,101,110,100],(fC_ 44 b1)),([99,111,100,101],(fN_ 47)),([99,111,109,112,97,114,101],(fC_ 51 b1)),([99,111,112,121],(fC_ 54 b1)),([99,111,117,110,116],(fC_ 57 b1)),([101,114,97,115,101],(fC_ 61 b1)),([103,101,110,101,114,97,116,101],(fN_ 64)),([109,101,114,103,101],(fN_ 65)),([112,114,105,110,116],(fC_ 66 b1))],blk b1 94 [(fN_ 43)]] rfl rfl rfl rfl underlying89 (mapK_s underlying9) rfl rfl ?_)
 refine o_ (O_insert 0 (f:=vS) (k:=[115,101,108,101,99,116]) [([97,98,101,110,100],(fC_ 44 b1)),([99,111,100,101],(fN_ 47)),([99,111,109,112,97,114,101],(fC_ 51 b1)),([99,111,112,121],(fC_ 54 b1)),([99,111,117,110,116],(fC_ 57 b1)),([101,114,97,115,101],(fC_ 61 b1)),([103,101,110,101,114,97,116,101],(fN_ 64)),([109,101,114,103,101],(fN_ 65)),([112,114,105,110,116],(fC_ 66 b1)),([115,101,108,101,99,116],(fN_ 69))] [mp vS b2 [([97,98,101,110,100],(fC_ 44 b1)),([99,111,100,101],(fN_ 47)),([99,111,109,112,97,114,101],(fC_ 51 b1)),([99,111,112,121],(fC_ 54 b1)),([99,111,117,110,116],(fC_ 57 b1)),([101,114,97,115,101],(fC_ 61 b1)),([103,101,110,101,114,97,116,101],(fN_ 64)),([109,101,114,103,101],(fN_ 65)),([112,114,105,110,116],(fC_ 66 b1)),([115,101,108,101,99,116],(fN_ 69))],blk b1 94 [(fN_ 43)]] rfl rfl rfl rfl underlying89 (mapK_s underlying9) rfl rfl ?_)
 refine o_ (O_insert 0 (f:=vS) (k:=[115,111,114,116]) [([97,98,101,110,100],(fC_ 44 b1)),([99,111,100,101],(fN_ 47)),([99,111,109,112,97,114,101],(fC_ 51 b1)),([99,111,112,121],(fC_ 54 b1)),([99,111,117,110,116],(fC_ 57 b1)),([101,114,97,115,101],(fC_ 61 b1)),([103,101,110,101,114,97,116,101],(fN_ 64)),([109,101,114,103,101],(fN_ 65)),([112,114,105,110,116],(fC_ 66 b1)),([115,101,108,101,99,116],(fN_ 69)),([115,111,114,116],(fN_ 70))] [mp vS b2 [([97,98,101,110,100],(fC_ 44 b1)),([99,111,100,101],(fN_ 47)),([99,111,109,112,97,114,101],(fC_ 51 b1)),([99,111,112,121],(fC_ 54 b1)),([99,111,117,110,116],(fC_ 57 b1)),([101,114,97,115,101],(fC_ 61 b1)),([103,101,110,101,114,97,116,101],(fN_ 64)),([109,101,114,103,101],(fN_ 65)),([112,114,105,110,116],(fC_ 66 b1)),([115,101,108,101,99,116],(fN_ 69)),([115,111,114,116],(fN_ 70))],blk b1 94 [(fN_ 43)]] rfl rfl rfl rfl underlying89 (mapK_s underlying9) rfl rfl ?_)
 refine s_ mv_ (s_ av_ (z_ (n_ (rt_ ?_))))
 refine JX_rets [_] _ results32 (fun w h=>⟨rfl,trivial⟩) rfl _ i_ ⟨b2,b1,?_,?_⟩
 ·rfl
 ·rfl
theorem f64_ok (w:World):Calls prog 64 #[] w (Gives [] w fun v L=>∃ nb:Nat,∃ bn:Nat,∃ bt:Nat,v=vG [vL (some ⟨nb,0,none⟩) 1 1,Value.func (.func 91) #[] #[pB bn 0,pB bt 0],Value.func (.func 93) #[] #[pB bn 0,pB bt 0]]∧L=[blk nb 9 [vS [79,85,84]],blk bn 3 [vI 0],blk bt 9 [vS []]]):=by
 refine calls_J [] 7 func64 rfl ntmps64 [] rfl rfl (Give.nil w) ?_
 refine q_ (g_ (o_ (al_ ze97 fun b1=>?_)))
 refine z_ (n_ (q_ (g_ (o_ (al_ ze3 fun b2=>?_)))))
 refine o_ (al_ ze9 fun b3=>?_)
 refine o_ (st1 1 sz3 ?_)
 refine o_ (st1 0 sz9 ?_)
 refine z_ (n_ (q_ (g_ (o_ (O_buildSlice (cs:=[vS [79,85,84]]) underlying25 sz9 ze9 dd_ dd_ kf_ fun b4=>?_)))))
 refine js_ (Value.func (.func 91) #[] #[pB b2 0,pB b3 0]) (x_makeFunc rfl rfl) (js_ (Value.func (.func 93) #[] #[pB b2 0,pB b3 0]) (x_makeFunc rfl rfl) (js_ (vG [vL (some ⟨b4,0,none⟩) 1 1,Value.func (.func 91) #[] #[pB b2 0,pB b3 0],Value.func (.func 93) #[] #[pB b2 0,pB b3 0]]) (x_build kf_) (o_ (stG 3 sz97 ?_))))
 refine z_ (n_ (rt_ ?_))
 refine JX_rets [_] _ results64 (fun w h=>⟨⟨_,rfl,load_blkN 3 [vL (some ⟨b4,0,none⟩) 1 1,Value.func (.func 91) #[] #[pB b2 0,pB b3 0],Value.func (.func 93) #[] #[pB b2 0,pB b3 0]] h rfl ag97 sz97 rfl⟩,trivial⟩) rfl [blk b4 9 [vS [79,85,84]],blk b2 3 [vI 0],blk b3 9 [vS []]] (fun _ h=>(((h.front 1 _ rfl).front 2 _ rfl).front 2 _ rfl).keep [T_,T_,T_,F_] rfl) ⟨b4,b2,b3,?_,?_⟩
 ·rfl
 ·rfl
theorem f51_ok (tb:Nat) (w:World) (hg:Give [tb] w [blk tb 94 [(fN_ 43)]]):Calls prog 51 #[pB tb 0] w (Gives [tb] w fun v L=>∃ nb:Nat,v=vG [vL (some ⟨nb,0,none⟩) 2 2,(fN_ 43),(fN_ 52)]∧L=[blk nb 9 [vS [73,78,49],vS [73,78,50]],blk tb 94 [(fN_ 43)]]):=by
 refine calls_J [tb] 5 func51 rfl ntmps51 [(0,_)] rfl rfl hg ?_
 refine q_ (g_ (o_ (al_ ze97 fun b1=>?_)))
 refine z_ (n_ (q_ (g_ (o_ (O_buildSlice (cs:=[vS [73,78,49],vS [73,78,50]]) underlying25 sz9 ze9 dd_ dd_ kf_ fun b2=>?_)))))
 refine r_ (ld_ 2 sc94) (js_ (vG [vL (some ⟨b2,0,none⟩) 2 2,(fN_ 43),(fN_ 52)]) (x_build kf_) (o_ (stG 1 sz97 ?_)))
 refine z_ (n_ (rt_ ?_))
 refine JX_rets [_] _ results51 (fun w h=>⟨⟨_,rfl,load_blkN 1 [vL (some ⟨b2,0,none⟩) 2 2,(fN_ 43),(fN_ 52)] h rfl ag97 sz97 rfl⟩,trivial⟩) rfl _ (fun _ h=>h.keep [T_,F_,T_] rfl) ⟨b2,?_,?_⟩
 ·rfl
 ·rfl
theorem f54_ok (tb:Nat) (w:World) (hg:Give [tb] w [blk tb 94 [(fN_ 43)]]):Calls prog 54 #[pB tb 0] w (Gives [tb] w fun v L=>∃ nb:Nat,v=vG [vL (some ⟨nb,0,none⟩) 2 2,(fN_ 43),(fN_ 55)]∧L=[blk nb 9 [vS [73,78],vS [79,85,84]],blk tb 94 [(fN_ 43)]]):=by
 refine calls_J [tb] 5 func54 rfl ntmps54 [(0,_)] rfl rfl hg ?_
 refine q_ (g_ (o_ (al_ ze97 fun b1=>?_)))
 refine z_ (n_ (q_ (g_ (o_ (O_buildSlice (cs:=[vS [73,78],vS [79,85,84]]) underlying25 sz9 ze9 dd_ dd_ kf_ fun b2=>?_)))))
 refine r_ (ld_ 2 sc94) (js_ (vG [vL (some ⟨b2,0,none⟩) 2 2,(fN_ 43),(fN_ 55)]) (x_build kf_) (o_ (stG 1 sz97 ?_)))
 refine z_ (n_ (rt_ ?_))
 refine JX_rets [_] _ results54 (fun w h=>⟨⟨_,rfl,load_blkN 1 [vL (some ⟨b2,0,none⟩) 2 2,(fN_ 43),(fN_ 55)] h rfl ag97 sz97 rfl⟩,trivial⟩) rfl _ (fun _ h=>h.keep [T_,F_,T_] rfl) ⟨b2,?_,?_⟩
 ·rfl
 ·rfl
theorem f91_ok (x:Nat) (s:Nat) (parm:Bytes) (m:Nat) (bn:Nat) (bt:Nat) (n0:Int) (t0:Bytes) (w:World) (hT:Tab [x,bn,bt] w) (q0:parm.length≤1000) (hg:Give [x,bn,bt] w [x0_ x s parm m,blk bn 3 [vI n0],blk bt 9 [vS t0]]):Calls prog 91 #[pB x 0,pB bn 0,pB bt 0] w (Gives [x,bn,bt] w fun v L=>∃ n:Int,∃ t:Bytes,∃ ok:Bool,v=vB ok∧L=[x0_ x s parm m,blk bn 3 [vI n],blk bt 9 [vS t]]∧(R45.GenP parm n t ok)):=by
 refine calls_J [x,bn,bt] 44 func91 rfl ntmps91 [(0,_),(1,_),(2,_)] rfl rfl hg ?_
 refine q_ (g_ (s_ av_ (z_ (n_ (q_ (g_ (s_ mv_ (s_ (x_nilCheck rfl) (s_ (fA 1 fi82_1) (r_ (ld_ 0 sc9) ?_))))))))))
 refine c1 (cl_ ca92) (fun w hS=>cut_ok 32 parm w (hT.on hS (fun _ h=>by cases h)) hy_) ?_
 rintro _ _ ⟨a1,r2,o3,rfl,rfl,hf4,hf5,hf6⟩
 refine s_ mv_ (s_ (ex_ 0) (s_ (ex_ 1) (s_ (ex_ 2) (s_ av_ (s_ av_ (s_ av_ (z_ (n_ (q_ (g_ (s_ mv_ ?_)))))))))))
 refine c1 (cl_ ca49) (fun w hS=>f49_ok a1 300 w (hT.on hS (fun _ h=>by cases h)) hy_) ?_
 rintro _ _ ⟨n7,ok8,rfl,rfl,hf9⟩
 refine s_ mv_ (s_ (ex_ 0) (s_ (ex_ 1) (s_ av_ (s_ av_ (z_ (xk_ [1,2,4,6,7,8,9] ?_))))))
 refine n_ (q_ (g_ (s_ mv_ (s_ mv_ (o_ (st1 1 sz3 ?_))))))
 refine o_ (st1 2 sz9 ?_)
 refine z_ (n_ (q_ (g_ (s_ mv_ (s_ mv_ ?_)))))
 refine and_ 1 (ok8) (fun g10=>?_) ?_
 ·have g10r:=g10
  refine sg_ g10 mv_ ?_
  exact cr_
 refine s_ mv_ ?_
 refine and_ 2 (decide (r2≠([]:Bytes))) (fun g11=>?_) ?_
 ·have g11r:=g11
  have ⟨g11r,h12⟩:=band_true g11r
  refine sg_ g11 mv_ (jg_ g11 (vB (decide (r2≠([]:Bytes)))) (x_neq_s rfl rfl) ?_)
  exact cr_
 refine s_ mv_ ?_
 refine and_ 3 (decide (((r2.length:Nat):Int)≤20)) (fun g13=>?_) ?_
 ·have g13r:=g13
  have ⟨g13r,h14⟩:=band_true g13r
  have ⟨g13r,h15⟩:=band_true g13r
  have h14:=ot_ h14
  have h14l:=List.length_pos_iff.2 h14
  refine sg_ g13 mv_ (sg_ g13 (x_len_s rfl underlying9) (sg_ g13 (x_leq_i rfl rfl) ?_))
  exact cr_
 refine s_ mv_ ?_
 refine and_ 3 (!(decide ((32:UInt8)∈r2))) (fun g16=>?_) ?_
 ·have g16r:=g16
  have ⟨g16r,h17⟩:=band_true g16r
  have ⟨g16r,h18⟩:=band_true g16r
  have ⟨g16r,h19⟩:=band_true g16r
  have h18:=ot_ h18
  have h18l:=List.length_pos_iff.2 h18
  have h17:=ot_ h17
  refine sg_ g16 mv_ (c0g g16 (cl_ ca20) (fun w hS=>cont_ok 32 r2 w) (sg_ g16 (x_not rfl) ?_))
  exact cr_
 refine s_ av_ (z_ (n_ (rt_ ?_)))
 refine JX_rets [_] _ results91 (fun w h=>⟨rfl,trivial⟩) rfl _ i_ ⟨n7,r2,((((o3&&ok8)&&(decide (r2≠([]:Bytes))))&&(decide (((r2.length:Nat):Int)≤20)))&&(!(decide ((32:UInt8)∈r2)))),?_,?_,?_⟩
 ·rfl
 ·rfl
 ·exact R45.genP as_ as_ as_
theorem f93_ok (x:Nat) (s:Nat) (parm:Bytes) (m:Nat) (rows:List SRow) (rowsA:OA_) (rowsC:Nat) (calls:Nat) (dds:List (Bytes × Binding)) (bn:Nat) (bt:Nat) (n:Int) (t:Bytes) (w:World) (rowsR:RO [x,m,s,bn,bt] w rowsA (rows.flatMap SRow.enc)) (hT:Tab [x,m,s,bn,bt] w) (q0:rows.length≤1000) (q1:calls≤990000) (q2:R45.Dist rows) (q3:∀ x∈rows,x.Key.length≤1000000) (q4:n≤300) (q5:t.length≤20) (q6:0≤n) (hg:Give [x,m,s,bn,bt] w [x0_ x s parm m,mp vS m (dds.map R45.bindE),sH_ s rowsA rows.length rowsC calls,blk bn 3 [vI n],blk bt 9 [vS t]]):Calls prog 93 #[pB x 0,vL none 0 0,pB bn 0,pB bt 0] w (GivesE [x,m,s,bn,bt] w (fun v L=>∃ ch:List Change,∃ chA:OA_,∃ chC:Nat,∃ ln:LB_,∃ lnA:OA_,∃ lnC:Nat,∃ c2:Nat,v=Value.tuple #[]∧L=[xE_ x s parm m [vI 0,vB false,vL chA ch.length chC,vL lnA ln.length lnC],mp vS m (dds.map R45.bindE),sH_ s rowsA rows.length rowsC c2,row (.slice chA ch.length chC) 60 5 ch.length (ch.flatMap Change.enc),row (.slice lnA ln.length lnC) 9 1 ln.length (ln.map vS)]∧(R45.WrJ (R45.outB dds) (R45.genL t n.toNat) ch)∧(ln=[R45.countS n.toNat++[]])∧(c2≤calls+rows.length+1)) (fun c L=>∃ line:Bytes,c=R45.pan line∧L=[]∧(¬ (R45.SeqB (R45.outB dds)∧n≤290)))):=by
 refine calls_JE [x,m,s,bn,bt] 25 func93 rfl ntmps93 [(0,_),(1,_),(2,_),(3,_)] rfl rfl hg ?_
 refine q_ (g_ (s_ av_ (z_ (n_ (q_ (q_ (g_ (r_ (ld_ 3 sc3) (s_ mv_ (z_ (n_ (k_ ?_))))))))))))
 refine J_loop (X:=Nat × (LB_) × (OA_) × Nat) (fun (⟨i,l,lA,lC⟩:Nat × (LB_) × (OA_) × Nat)=>((i:Int)≤n)∧(l=R45.genL t i)) (fun (⟨i,l,lA,lC⟩:Nat × (LB_) × (OA_) × Nat)=>[(0,pB x 0),(3,pB bt 0),(6,vL lA l.length lC),(8,vI n),(9,vN i)]) (fun (⟨i,l,lA,lC⟩:Nat × (LB_) × (OA_) × Nat)=>[x0_ x s parm m,mp vS m (dds.map R45.bindE),sH_ s rowsA rows.length rowsC calls,blk bn 3 [vI n],blk bt 9 [vS t],row (.slice lA l.length lC) 9 1 l.length (l.map vS)]) (fun (⟨i,l,lA,lC⟩:Nat × (LB_) × (OA_) × Nat)=>n.toNat-i) ((0,([]:LB_),none,0):Nat × (LB_) × (OA_) × Nat) ?_ se_ (fun _ h=>((((((h.nilrow 9 1).front 5 _ rfl).front 5 _ rfl).front 5 _ rfl).front 5 _ rfl).front 5 _ rfl).keep [T_,T_,T_,T_,T_,T_] rfl) ?_
 ·try dsimp only
  refine ⟨?_,?_⟩
  ·exact df_
  ·rfl
 rintro ⟨i,l,lA,lC⟩ hI1
 obtain ⟨i1_0,i1_1⟩:=hI1
 try dsimp only at i1_0
 try dsimp only at i1_1
 have hll:l.length=i:=by rw [i1_1];exact R45.gen_len t i
 have hdl:=R45.dec_posI (10001+(i:Int))
 have hdm:=R45.sub1_len (10001+(i:Int)) om_
 try dsimp only
 refine q_ (g_ (s_ (x_lss_i rfl rfl) (z_ (n_ (q_ ?_)))))
 refine ifd (fun h1w h1=>?_) (fun h1w h1=>?_)
 ·refine sk_ (n_ (q_ (k_ (q_ (g_ (s_ mv_ (s_ av_ (z_ (n_ ?_)))))))))
  refine drU [x0_ x s parm m,mp vS m (dds.map R45.bindE),sH_ s rowsA rows.length rowsC calls,blk bn 3 [vI n],blk bt 9 [vS t]] [8] 10 mixed ?_
  refine jp_ 0 rfl mv_ (jq_ 1 rfl (ld_ 4 sc9) (jp_ 2 rfl mv_ (jp_ 3 rfl (x_add_n (a:=10001) (b:=i) rfl rfl om_) (j1_ 4 (jc0_ rfl (cl_ ca19) (fun w hS=>itoa_ok _ w (hT.on hS (fun _ h=>by cases h)) hy_ hy_) ?_) (fun _ h=>⟨h.keep [T_,T_,T_,T_,T_,F_] rfl,fun _=>h⟩)))))
  have ha2:=R45.dec_lenI ((10001+i:Nat):Int) om_
  refine jp_ 5 rfl (x_sub_s (lo:=1) (hi:=(Lib.decDigits ((10001+i:Nat):Int).toNat).length) rfl underlying9 (.inl rfl) (.inr ⟨rfl,rfl⟩) lt_ (by first | omega | (simp only [sub,List.length_drop,List.length_take];omega) | (simp;omega) | (simp_all;omega))) (jp_ 6 rfl (x_cat_s rfl rfl (by first | omega | (simp only [List.length_append,List.length_cons,List.length_nil];omega) | (simp;omega) | (simp_all;omega))) (j1_ 7 (jio_ rfl (O_buildSlice (cs:=[vS (t++(sub (Lib.decDigits ((10001+i:Nat):Int).toNat) 1 ((Lib.decDigits ((10001+i:Nat):Int).toNat).length)))]) underlying25 sz9 ze9 dd_ dd_ kf_ fun b4=>?_)) (fun _ h=>⟨h.keep [T_,T_,T_,T_,T_,F_] rfl,fun _=>h⟩)))
  refine j1_ 8 (jio_ rfl (O_append_m 6 vS l [t++(sub (Lib.decDigits ((10001+i:Nat):Int).toNat) 1 ((Lib.decDigits ((10001+i:Nat):Int).toNat).length))] underlying25 sz9 by9 ze9 rfl rfl rfl rfl rfl (fun _=>rfl) (cells_blk 0 (off:=0) (m:=1) rfl rfl) lt_ lt_ fun A7 c8=>?_)) (fun _ h=>⟨h.keep [F_,T_,T_,T_,T_,T_,F_] rfl,fun _=>h.keep [F_,T_,T_,T_,T_,T_,T_] rfl⟩)
  refine jp_ 9 rfl av_ ?_
  refine JA_done kf_ (gl_ rfl (fun _ h=>h.keep [F_,T_,T_,T_,T_,T_,F_] rfl)) ?_
  refine kx_ (n_ (g_ (s_ (x_add_n (a:=i) (b:=1) rfl rfl om_) (s_ mv_ (z_ ?_)))))
  refine JX_round ((i+1,l++[t++(sub (Lib.decDigits ((10001+i:Nat):Int).toNat) 1 ((Lib.decDigits ((10001+i:Nat):Int).toNat).length))],A7,c8):Nat × (LB_) × (OA_) × Nat) ?_ ?_ se_ (fun _ h=>h.keep [F_,T_,T_,T_,T_,T_,T_] rfl)
  ·try dsimp only
   refine ⟨?_,?_⟩
   ·exact df_
   ·rw [i1_1];exact R45.gen_stepS t i
  ·try dsimp only
   first | omega | (simp;omega) | (simp_all;omega)
 ·refine J_exit (ne_ (re_ (kh_ (n_ (g_ ?_)))))
  refine s_ mv_ (s_ mv_ ?_)
  refine JO_callP [x,m,s] [x0_ x s parm m,mp vS m (dds.map R45.bindE),sH_ s rowsA rows.length rowsC calls] [blk bn 3 [vI n],blk bt 9 [vS t],row (.slice lA l.length lC) 9 1 l.length (l.map vS)] rfl trivial (fun _=>x_call ca56 rfl) i_ (own_mem rfl) (fun w hS=>f56_ok x s parm m rows rowsA rowsC calls dds l lA lC [] w (rowsR.on hS (own_mem rfl)) (RO.of_rowS hS (own_mem rfl) 2 rfl) (hT.on hS (own_mem rfl)) hy_ hy_ hy_ hy_ hy_ (by exact fun j=>by rw [i1_1];exact R45.gen_each t i om_ q5 j) hy_ (hS.give (own_in rfl))) ?_ ?_
  ·rintro _ _ ⟨line9,rfl,rfl,hp10⟩
   refine JX_pan [] (fun _ h=>h.keep [F_,F_,F_] rfl) (fun _ _ h=>h) ⟨line9,rfl,?_,?_⟩
   ·rfl
   ·rw [show n=(l.length:Int) by rw [i1_1,R45.gen_len];omega]
    exact fun h=>absurd (⟨h.1,by omega⟩:_∧l.length≤290) as_
  rintro _ _ ⟨ch11,chA12,chC13,ln14,lnA15,lnC16,e17,rfl,rfl,hf18,hf19,hf20⟩
  refine z_ (JX_En ?_)
  refine JX_end0 results93 [xE_ x s parm m [vI 0,vB false,vL chA12 ch11.length chC13,vL lnA15 ln14.length lnC16],mp vS m (dds.map R45.bindE),sH_ s rowsA rows.length rowsC e17,row (.slice chA12 ch11.length chC13) 60 5 ch11.length (ch11.flatMap Change.enc),row (.slice lnA15 ln14.length lnC16) 9 1 ln14.length (ln14.map vS)] (fun _ h=>h.keep [T_,T_,T_,T_,T_,F_,F_,F_] rfl) ⟨ch11,chA12,chC13,ln14,lnA15,lnC16,e17,?_,?_,?_,?_,?_⟩
  ·rfl
  ·rfl
  ·rw [show n.toNat=i by omega,← i1_1]
   assumption
  ·rw [show n.toNat=l.length by rw [i1_1,R45.gen_len];omega]
   assumption
  ·assumption
theorem f52_ok (x:Nat) (s:Nat) (parm:Bytes) (m:Nat) (rc:List Rw) (rcA:OA_) (rcC:Nat) (w:World) (rcR:RO [x] w rcA (rc.flatMap Rw.enc)) (rcN:∀ i:Nat,RO [x] w (rc.getD i default).sA (((rc.getD i default).s).map vS)) (hT:Tab [x] w) (q0:rc.length=2) (q1:((rc.getD 0 default).s).length≤1000000) (q2:((rc.getD 1 default).s).length≤1000000) (hg:Give [x] w [x0_ x s parm m]):Calls prog 52 #[pB x 0,vL rcA rc.length rcC] w (Gives [x] w fun v L=>∃ cd:Int,∃ ln:LB_,∃ lnA:OA_,∃ lnC:Nat,v=Value.tuple #[]∧L=[xE_ x s parm m [vI cd,vB false,vL none 0 0,vL lnA ln.length lnC],row (.slice lnA ln.length lnC) 9 1 ln.length (ln.map vS)]∧(cd=R45.cmpC ((rc.getD 0 default).s) ((rc.getD 1 default).s))∧(ln=R45.cmpL ((rc.getD 0 default).s) ((rc.getD 1 default).s))):=by
 refine calls_J [x] 12 func52 rfl ntmps52 [(0,_),(1,_)] rfl rfl hg ?_
 refine drU [] [7] 8 mixed ?_
 refine jp_ 0 rfl mv_ (jp_ 1 rfl mv_ (jq_ 2 rfl (ixF (k:=0) Rw.enc_len (cells_ro rcR) underlying102 sz25) (jq_ 3 rfl (ldF (k:=0) 0 Rw.enc_len (cells_ro rcR) sc25) (jp_ 4 rfl mv_ (jq_ 5 rfl (ixF (k:=1) Rw.enc_len (cells_ro rcR) underlying102 sz25) (jq_ 6 rfl (ldF (k:=1) 0 Rw.enc_len (cells_ro rcR) sc25) (j1_ 7 ?_ (fun _ h=>⟨h.keep [F_] rfl,fun _=>h⟩))))))))
 refine JI_call [x] [x0_ x s parm m] [] rfl rfl trivial (fun _=>x_call ca53 rfl) i_ (own_mem rfl) (fun w hS=>f53_ok x s parm m ((rc.getD 0 default).s) ((rc.getD 0 default).sA) ((rc.getD 0 default).sC) ((rc.getD 1 default).s) ((rc.getD 1 default).sA) ((rc.getD 1 default).sC) w ((rcN 0).on hS (own_mem rfl)) ((rcN 1).on hS (own_mem rfl)) (hT.on hS (own_mem rfl)) hy_ hy_ (hS.give (own_in rfl))) ?_
 rintro _ _ ⟨cd1,ln2,lnA3,lnC4,rfl,rfl,hf5,hf6⟩
 refine JA_done kf_ (gl_ rfl (fun _ h=>h.keep [F_,F_] rfl)) ?_
 refine JX_end0 results52 [xE_ x s parm m [vI cd1,vB false,vL none 0 0,vL lnA3 ln2.length lnC4],row (.slice lnA3 ln2.length lnC4) 9 1 ln2.length (ln2.map vS)] i_ ⟨cd1,ln2,lnA3,lnC4,?_,?_,?_,?_⟩
 ·rfl
 ·rfl
 ·assumption
 ·assumption
theorem f55_ok (x:Nat) (s:Nat) (parm:Bytes) (m:Nat) (rows:List SRow) (rowsA:OA_) (rowsC:Nat) (calls:Nat) (dds:List (Bytes × Binding)) (rc:List Rw) (rcA:OA_) (rcC:Nat) (w:World) (rowsR:RO [x,m,s] w rowsA (rows.flatMap SRow.enc)) (rcR:RO [x,m,s] w rcA (rc.flatMap Rw.enc)) (rcN:∀ i:Nat,RO [x,m,s] w (rc.getD i default).sA (((rc.getD i default).s).map vS)) (hT:Tab [x,m,s] w) (q0:rows.length≤1000) (q1:calls≤990000) (q2:R45.Dist rows) (q3:∀ x∈rows,x.Key.length≤1000000) (q4:rc.length=1) (q5:((rc.getD 0 default).s).length≤1100) (q6:∀ i,(((rc.getD 0 default).s).getD i []).length≤1000000) (hg:Give [x,m,s] w [x0_ x s parm m,mp vS m (dds.map R45.bindE),sH_ s rowsA rows.length rowsC calls]):Calls prog 55 #[pB x 0,vL rcA rc.length rcC] w (GivesE [x,m,s] w (fun v L=>∃ ch:List Change,∃ chA:OA_,∃ chC:Nat,∃ ln:LB_,∃ lnA:OA_,∃ lnC:Nat,∃ c2:Nat,v=Value.tuple #[]∧L=[xE_ x s parm m [vI 0,vB false,vL chA ch.length chC,vL lnA ln.length lnC],mp vS m (dds.map R45.bindE),sH_ s rowsA rows.length rowsC c2,row (.slice chA ch.length chC) 60 5 ch.length (ch.flatMap Change.enc),row (.slice lnA ln.length lnC) 9 1 ln.length (ln.map vS)]∧(R45.WrJ (R45.outB dds) ((rc.getD 0 default).s) ch)∧(ln=[R45.countS ((rc.getD 0 default).s).length++[]])∧(c2≤calls+rows.length+1)) (fun c L=>∃ line:Bytes,c=R45.pan line∧L=[]∧(¬ (R45.SeqB (R45.outB dds)∧((rc.getD 0 default).s).length≤290)))):=by
 refine calls_JE [x,m,s] 9 func55 rfl ntmps55 [(0,_),(1,_)] rfl rfl hg ?_
 refine g_ (s_ mv_ (s_ mv_ (r_ (ixF (k:=0) Rw.enc_len (cells_ro rcR) underlying102 sz25) (r_ (ldF (k:=0) 0 Rw.enc_len (cells_ro rcR) sc25) ?_))))
 refine JO_callP [x,m,s] [x0_ x s parm m,mp vS m (dds.map R45.bindE),sH_ s rowsA rows.length rowsC calls] [] rfl trivial (fun _=>x_call ca56 rfl) i_ (own_mem rfl) (fun w hS=>f56_ok x s parm m rows rowsA rowsC calls dds ((rc.getD 0 default).s) ((rc.getD 0 default).sA) ((rc.getD 0 default).sC) [] w (rowsR.on hS (own_mem rfl)) ((rcN 0).on hS (own_mem rfl)) (hT.on hS (own_mem rfl)) hy_ hy_ hy_ hy_ hy_ hy_ hy_ (hS.give (own_in rfl))) ?_ ?_
 ·rintro _ _ ⟨line1,rfl,rfl,hp2⟩
  refine JX_pan [] i_ (fun _ _ h=>h) ⟨line1,rfl,?_,?_⟩
  ·rfl
  ·assumption
 rintro _ _ ⟨ch3,chA4,chC5,ln6,lnA7,lnC8,e9,rfl,rfl,hf10,hf11,hf12⟩
 refine z_ (JX_En ?_)
 refine JX_end0 results55 [xE_ x s parm m [vI 0,vB false,vL chA4 ch3.length chC5,vL lnA7 ln6.length lnC8],mp vS m (dds.map R45.bindE),sH_ s rowsA rows.length rowsC e9,row (.slice chA4 ch3.length chC5) 60 5 ch3.length (ch3.flatMap Change.enc),row (.slice lnA7 ln6.length lnC8) 9 1 ln6.length (ln6.map vS)] i_ ⟨ch3,chA4,chC5,ln6,lnA7,lnC8,e9,?_,?_,?_,?_,?_⟩
 ·rfl
 ·rfl
 ·assumption
 ·assumption
 ·assumption
end Go.Proofs.YtggobegaiijhhaaGreatDoor
namespace Go.Proofs.YtggobegaiijhhaaGreatDoor
open Go.GV
namespace R45
theorem recV_len2 {rows:List SRow} {b:Binding} (h:rows.length≤1000) (h2:b.Lines.length≤1000):(recV rows b).length≤1000:=by
  unfold recV
  split
  · exact h2
  · split
    · simp
    · unfold recs;rw [List.length_map];have:=above_len rows b.EData.Id [];omega
theorem ff {a b:Bool} (h:a=true) (h2:b=a) (h3:b=false):False:=by rw [h2,h] at h3;cases h3
theorem outB2 (b c:Binding):outB [(IN,b),(OUT,c)]=c:=rfl
theorem GenP.bd {s t:Bytes} {n:Int} {ok:Bool} (h:GenP s n t ok) (hk:ok=true):0≤n∧n≤300∧t.length≤20:=(h.1 hk).2
def gN:Bytes:=[103,101,110,101,114,97,116,101]
def cpN:Bytes:=[99,111,112,121]
def GenR (parm:Bytes) (l:List Binding) (cd:Int) (ch:List Change) (ln:List Bytes):Prop:=
  0≤findI OUT l∧cd=0 ∧ ∃ n t,parmG parm=some (n,t)∧WrJ (bd l OUT) (genL t n.toNat) ch∧ln=[countS n.toNat++[]]
def GenOk (parm:Bytes) (l:List Binding):Prop:=
  0≤findI OUT l∧wrV gN (bd l OUT)=true ∧ ∃ n t,parmG parm=some (n,t)∧SeqB (bd l OUT)∧n≤290
theorem gen_noP {parm:Bytes} {l:List Binding} {n:Int} {t:Bytes} {ok:Bool} (h:GenP parm n t ok) (hk:ok=false):¬ GenOk parm l:=fun ⟨_,_,n',t',h2,_⟩=>by rw [h.2 hk] at h2;cases h2
theorem gen_noW {parm:Bytes} {l:List Binding} {n:Int} {t:Bytes} {ok:Bool} (h:GenP parm n t ok) (hk:ok=true) (hw:¬ (SeqB (bd l OUT)∧n≤290)):¬ GenOk parm l:=fun ⟨_,_,n',t',h2,h3,h4⟩=>by
  rw [(h.1 hk).1] at h2;cases h2;exact hw ⟨h3,h4⟩
theorem gen_yes {parm:Bytes} {l:List Binding} {n:Int} {t:Bytes} {ok:Bool} {ch:List Change} {ln:List Bytes} (h0:0≤findI OUT l) (h:GenP parm n t ok) (hk:ok=true) (hw:WrJ (bd l OUT) (genL t n.toNat) ch) (hl:ln=[countS n.toNat++[]]):GenR parm l 0 ch ln:=
  ⟨h0,rfl,n,t,(h.1 hk).1,hw,hl⟩
def CmpR (rows:List SRow) (l:List Binding) (cd:Int) (ch:List Change) (ln:List Bytes):Prop:=
  0≤findI IN1 l∧0≤findI IN2 l∧ch=[]∧cd=cmpC (recV rows (bd l IN1)) (recV rows (bd l IN2))∧ln=cmpL (recV rows (bd l IN1)) (recV rows (bd l IN2))
def CmpOk (l:List Binding):Prop:=0≤findI IN1 l∧0≤findI IN2 l
def CpyR (rows:List SRow) (l:List Binding) (cd:Int) (ch:List Change) (ln:List Bytes):Prop:=
  0≤findI IN l∧0≤findI OUT l∧cd=0∧WrJ (bd l OUT) (recV rows (bd l IN)) ch∧ln=[countS (recV rows (bd l IN)).length++[]]
def CpyOk (rows:List SRow) (l:List Binding):Prop:=
  0≤findI IN l∧0≤findI OUT l∧wrV cpN (bd l OUT)=true∧SeqB (bd l OUT)∧(recV rows (bd l IN)).length≤290
theorem rec_len (o:List Bytes) {rows:List SRow} {b:Binding} (h:o=recV rows b) (h1:rows.length≤1000) (h2:b.Lines.length≤1000):o.length≤1000:=by rw [h];exact recV_len2 h1 h2
theorem rec_lenB (o:List Bytes) {n:Nat} (h:o.length≤1000) (hn:1000≤n):o.length≤n:=Nat.le_trans h hn
theorem rec_each (o:List Bytes) {rows:List SRow} {b:Binding} (h:o=recV rows b) (h1:∀ x∈rows,x.Record.length≤1000000) (h2:∀ i,(b.Lines.getD i []).length≤1000000):∀ j,(o.getD j []).length≤1000000:=by rw [h];exact recV_each h1 h2
theorem cpy_no {rows:List SRow} {l:List Binding} {o:List Bytes} (hw:¬ (SeqB (outB [(IN,bd l IN),(OUT,bd l OUT)])∧o.length≤290)) (ho:o=recV rows (bd l IN)):¬ CpyOk rows l:=fun h=>by
  rw [ho,outB2] at hw;exact hw h.2.2.2
theorem cpy_yes {rows:List SRow} {l:List Binding} {o:List Bytes} {ch:List Change} {ln:List Bytes} (h0:0≤findI IN l) (h1:0≤findI OUT l) (hw:WrJ (outB [(IN,bd l IN),(OUT,bd l OUT)]) o ch) (hl:ln=[countS o.length++[]]) (ho:o=recV rows (bd l IN)):CpyR rows l 0 ch ln:=by
  rw [ho] at hw hl;exact ⟨h0,h1,rfl,hw,hl⟩
theorem cmp_yes {rows:List SRow} {l:List Binding} {a b:List Bytes} {cd:Int} {ln:List Bytes} (h0:0≤findI IN1 l) (h1:0≤findI IN2 l) (hc:cd=cmpC a b) (hl:ln=cmpL a b) (ha:a=recV rows (bd l IN1)) (hb:b=recV rows (bd l IN2)):CmpR rows l cd [] ln:=by
  rw [ha,hb] at hc hl;exact ⟨h0,h1,rfl,hc,hl⟩
end R45
end Go.Proofs.YtggobegaiijhhaaGreatDoor
