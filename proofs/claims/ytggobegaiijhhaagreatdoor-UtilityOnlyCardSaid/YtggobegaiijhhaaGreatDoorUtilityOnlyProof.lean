/- The proof of 'Rows.UtilityOnlySaid': the frame (printed by frame2.py) round the contract of the law's function. -/
import Derived.Test.YtggobegaiijhhaaGreatDoorRows
import Derived.Test.YtggobegaiijhhaaGreatDoorUtilityOnly35
import Derived.Test.YtggobegaiijhhaaGreatDoorCards
import Derived.Test.YtggobegaiijhhaaGreatDoorTie
import Derived.ChangeOld
set_option linter.unusedVariables false
set_option linter.unusedSimpArgs false
namespace Go.Proofs.YtggobegaiijhhaaGreatDoor.utilityOnly
open Go.ChangeShapes Go.WideShapes Go.ChangeAt Go.RowKit Go.GV
open Go.ChangeMaps (open_string shut_string)
set_option linter.unusedVariables false
theorem laidOut:laidOutB Tryz.prog=true:=by kernel_rfl
set_option maxRecDepth 100000 in
set_option maxHeartbeats 2000000 in
theorem lifted (os:Os) (started:os.Started) (H:Type) (enc:TypeId × Value→H) :
    ReturnsInHanded {} Tryz.checked os 7 .any (fun w args=>(Rows.utilityOnlySpec.pre enc Tryz.prog Tryz.f7 [] false w args∧laidMetH Tryz.prog Rows.utilityOnlyRow.laid w)∧sizedMet enc Tryz.prog Tryz.f7 (OpenSpec.ofChange Rows.utilityOnlySpec) false w args) (Rows.utilityOnlySpec.post enc Tryz.prog Tryz.f7 false true false false):=by
  refine returnsInHanded_of_change_and_shaped (C:=Tryz.checked) (X:=fun w _=>laidMetH Tryz.prog Rows.utilityOnlyRow.laid w) (fun _ _ _ hh h=>h.of_heap hh) own started (by kernel_rfl) Tryz.func7
    (ChangeSpec.witness_shaped (enc:=enc) (C:=Tryz.checked) (os:=os) (X:=fun w _=>laidMetH Tryz.prog Rows.utilityOnlyRow.laid w) false (start os) #[.slice none 0 0,.string ByteArray.empty,.string ByteArray.empty,.slice none 0 0] 8 (start_os os) (World.shaped_of_RefB (by kernel_rfl) (by kernel_rfl)) (by kernel_rfl) (by kernel_rfl) (by kernel_rfl) (door_met os _)) ?_
  intro W base args ds gs before hval0 hW hL hsh
  have hT:Tab [] W:=tab_of hsh hL
  have hval:∀ (j:Nat) t v,Tryz.f7.params[j]? = some t→args[j]? = some v→Value.okWide Tryz.prog W .any base t v:=hval0
  have hW':=hW
  obtain ⟨p,q,hA0,hV,rfl,hfz,hnd⟩:=hW
  have hA:DataW.TrodAll enc Tryz.prog W 0 (fun _=>true) true Tryz.f7.params.toList args.toList ds p:=hA0
  rw [Tryz.params7] at hA hval
  obtain ⟨v0,vs0,d0,ds0,p0,q0,hargs,rfl,rfl,h0,r0⟩:=trodAll_cons hA
  obtain ⟨v1,vs1,d1,ds1,p1,q1,rfl,rfl,rfl,h1,r1⟩:=trodAll_cons r0
  obtain ⟨v2,vs2,d2,ds2,p2,q2,rfl,rfl,rfl,h2,r2⟩:=trodAll_cons r1
  obtain ⟨v3,vs3,d3,ds3,p3,q3,rfl,rfl,rfl,h3,r3⟩:=trodAll_cons r2
  obtain ⟨rfl,rfl,rfl⟩:=trodAll_nil r3
  obtain rfl:args = #[v0,v1,v2,v3]:=by cases args;simp_all
  obtain ⟨rfl,rfl⟩:=trodVars_none hV
  have k0:=h0
  have lt0:∀ x∈p0,x.block<W.heap.size:=by obtain ⟨m,hm⟩:=k0;exact DataW.trod_lt m _ _ _ hm
  obtain ⟨m0,hm0⟩:=h0
  have o0:=(open_sl Tryz.underlying22 (by kernel_rfl) SRow.enc_len Ty.op57) H enc W m0 _ _ hm0
  clear hm0
  generalize e0:v0.cells.toList=cs0 at o0
  obtain ⟨a0,l0,c0,rfl⟩:=okWide_slice Tryz.underlying22 (hval 0 22 v0 rfl rfl)
  obtain ⟨Ax0,cx0,xsx0,rfl,hRx0,hlx0,hBx0⟩:=o0
  obtain ⟨rfl,rfl,rfl⟩:=Go.GV.slice_inj e0
  have k1:=h1
  have lt1:∀ x∈p1,x.block<W.heap.size:=by obtain ⟨m,hm⟩:=k1;exact DataW.trod_lt m _ _ _ hm
  obtain ⟨m1,hm1⟩:=h1
  have o1:=(open_s Tryz.underlying9) H enc W m1 _ _ hm1
  clear hm1
  generalize e1:v1.cells.toList=cs1 at o1
  obtain ⟨z1,rfl,_,_,_⟩:=open_string Tryz.underlying9 (hval 1 9 v1 rfl rfl) k1
  obtain ⟨sx1,rfl,hsx1⟩:=o1
  obtain rfl:=Go.GV.str_inj e1
  have k2:=h2
  have lt2:∀ x∈p2,x.block<W.heap.size:=by obtain ⟨m,hm⟩:=k2;exact DataW.trod_lt m _ _ _ hm
  obtain ⟨m2,hm2⟩:=h2
  have o2:=(open_s Tryz.underlying9) H enc W m2 _ _ hm2
  clear hm2
  generalize e2:v2.cells.toList=cs2 at o2
  obtain ⟨z2,rfl,_,_,_⟩:=open_string Tryz.underlying9 (hval 2 9 v2 rfl rfl) k2
  obtain ⟨sx2,rfl,hsx2⟩:=o2
  obtain rfl:=Go.GV.str_inj e2
  have k3:=h3
  have lt3:∀ x∈p3,x.block<W.heap.size:=by obtain ⟨m,hm⟩:=k3;exact DataW.trod_lt m _ _ _ hm
  obtain ⟨m3,hm3⟩:=h3
  have o3:=(open_slW Tryz.underlying36 (by kernel_rfl) Binding.enc_len Ty.op33) H enc W m3 _ _ hm3
  clear hm3
  generalize e3:v3.cells.toList=cs3 at o3
  obtain ⟨a3,l3,c3,rfl⟩:=okWide_slice Tryz.underlying36 (hval 3 36 v3 rfl rfl)
  obtain ⟨Ax3,cx3,xsx3,rfl,hRx3,hlx3,hBx3⟩:=o3
  obtain ⟨rfl,rfl,rfl⟩:=Go.GV.slice_inj e3
  clear hA0 hval0
  refine (Calls.to_below (P:=Tryz.prog) (b:=true) (f7_ok xsx0 _ _ sx1 sx2 xsx3 _ _ W hRx0 hRx3 (okL_of (fun b hb=>kp_true (hBx3 b hb).1) (kp_true (b:=default) RO.nil)) hT hlx0 hlx3 (R45.lines_all fun b hb=>(hBx3 b hb).2) hsx1 hsx2) (fun v L h=>h.1)).mono fun e W' ⟨he,bel⟩=>?_
  subst he
  exact ⟨_,rfl,_,_,_,[],_,[],hW',trodAll_mk1 (shut_bool Tryz.underlying4 _),(trodAll_cons_mk (Below.trod laidOut (by kernel_rfl) (of_decide_eq_true (by kernel_rfl)) k0 bel lt0) (trodAll_cons_mk (Below.trod laidOut (by kernel_rfl) (of_decide_eq_true (by kernel_rfl)) k1 bel lt1) (trodAll_cons_mk (Below.trod laidOut (by kernel_rfl) (of_decide_eq_true (by kernel_rfl)) k2 bel lt2) (trodAll_cons_mk (Below.trod laidOut (by kernel_rfl) (of_decide_eq_true (by kernel_rfl)) k3 bel lt3) trodAll_mk0)))),rfl,bel.frame _,fun h=>by cases h⟩
theorem over:Rows.utilityOnlyRow.holds Tryz.pinned (OpenSpec.ofChange Rows.utilityOnlySpec):=
  OpenClaim.holds_of_wide 7 Tryz.f7 rfl rfl rfl rfl rfl rfl rfl ⟨rfl,rfl,rfl,rfl,rfl⟩ rfl rfl rfl rfl rfl (by kernel_rfl) Tryz.func7 (by kernel_rfl)
    (of_decide_eq_true (by kernel_rfl)) (by unfold Func.isWrapper;first | (rw [if_pos (by decide +kernel)];kernel_rfl) | (rw [if_neg (by decide +kernel)];exact ⟨rfl,rfl⟩))
    (fun os started H enc _=>lifted os started H enc)
theorem proved:Rows.UtilityOnlyCardSaid:=
  Claim7.holds_tied_plain_at .later [] [.data,.data,.data,.data,.sentinel,.sentinel,.pinned] true (true, "d1ab30f6b4d5430c5a50232bf7e0c2049563ba7bfac643757ad7dc367ae84cee") true
    over (fun _ h=>by cases h) (by kernel_rfl) (fun _ h=>by cases h) utilityOnly_row_tie rfl ⟨rfl,rfl⟩ (by kernel_rfl) rfl
    (fun f fn hf hfn=>by
      obtain rfl:f=7:=Option.some.inj ((show Tryz.prog.funcNamed Rows.utilityOnlyRow.func=some 7 by kernel_rfl).symm.trans hf) |>.symm
      obtain rfl:fn=Tryz.f7:=(Option.some.inj (Tryz.func7.symm.trans hfn)).symm
      exact ⟨by kernel_rfl,fun j t ht=>by
        rw [Tryz.params7] at ht
        have hm:t∈[22,9,9,36]:=by simpa using Array.mem_of_getElem? ht
        have hall:([22,9,9,36].all fun u=>!Tryz.prog.wantsStandIn u)=true:=by kernel_rfl
        exact (show Tryz.prog.wantsStandIn t=false by simpa using List.all_eq_true.1 hall t hm)⟩)
    (by kernel_rfl)
end Go.Proofs.YtggobegaiijhhaaGreatDoor.utilityOnly
