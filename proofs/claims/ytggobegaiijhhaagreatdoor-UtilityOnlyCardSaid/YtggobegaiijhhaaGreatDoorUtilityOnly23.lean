/- C44a, C44q, C44r in one text. -/
import Derived.Test.YtggobegaiijhhaaGreatDoorUtilityOnly22
set_option linter.unusedVariables false
set_option linter.unusedSimpArgs false
set_option maxRecDepth 20000
namespace Go.Proofs.YtggobegaiijhhaaGreatDoor
open Go.GV Go.Proofs.Tryz Ty
open Go.GV.Ent (blk row mp)
theorem c44a0_ {p:Prop} (h:p:=by first | (rw [R44.dec_none as_];rfl) | (rw [R44.dec_bad (R44.num_badP i1_0 om_ as_)];rfl) | (rw [R44.dec_neg' as_ (R44.num_endP i1_0 om_) as_];rfl) | (rw [R44.dec_pos' as_ (R44.num_endP i1_0 om_) as_];rfl)):p:=h
theorem c44a1_ {p:Prop} (h:p:=by unfold R44.cmpI;first | exact (if_pos om_).symm | (rw [if_neg om_,if_pos om_];done) | (rw [if_neg om_,if_neg om_];done)):p:=h
theorem c44a5_ {p:Prop} (h:p:=by first | exact (R44.valid_bad (k:=k) om_ (R44.fok_bad om_)).symm | exact (R44.valid_end (fun i hi=>i1_1 i om_)).symm):p:=h
theorem c44a6_ {p:Prop} (h:p:=by first | omega | (simp only [List.length_append,List.length_cons,List.length_nil];omega) | (simp;omega) | (simp_all;omega)):p:=h
theorem c44a7_ {p:Prop} (h:p:=by first | exact R44.fld_none om_ | exact R44.fld_some om_ om_ om_ om_):p:=h
theorem c44a8_ {p:Prop} (h:p:=by first | omega | (simp only [sub,List.length_drop,List.length_take];omega) | (simp;omega) | (simp_all;omega)):p:=h
theorem f137_ok (l:List SortField) (lA:OA_) (lC:Nat) (w:World) (lR:RO [] w lA (l.flatMap SortField.enc)) (q0:l.length≤9223372036854775807):Calls prog 137 #[vL lA l.length lC] w (Gives [] w fun v L=>v=vB (R44.valid l)∧L=[]):=by
 refine calls_J [] 48 func137 rfl ntmps137 [(0,_)] rfl rfl (Give.nil w) ?_
 refine q_ (g_ (s_ av_ (z_ (n_ (q_ (g_ (o_ (O_makeMap vI fun b1=>?_))))))))
 refine o_ (O_insert 0 (f:=vI) (k:=0) [(0,vI 200)] [mp vI b1 [(0,vI 200)]] rfl rfl rfl rfl underlying210 (mapK_i underlying3) rfl rfl ?_)
 refine o_ (O_insert 0 (f:=vI) (k:=1) [(0,vI 200),(1,vI 18)] [mp vI b1 [(0,vI 200),(1,vI 18)]] rfl rfl rfl rfl underlying210 (mapK_i underlying3) rfl rfl ?_)
 refine o_ (O_insert 0 (f:=vI) (k:=2) [(0,vI 200),(1,vI 18),(2,vI 8)] [mp vI b1 [(0,vI 200),(1,vI 18),(2,vI 8)]] rfl rfl rfl rfl underlying210 (mapK_i underlying3) rfl rfl ?_)
 refine s_ mv_ (s_ av_ (z_ (n_ (q_ (q_ (g_ (s_ mv_ (s_ (lnS underlying138) (s_ mv_ (z_ (n_ (k_ ?_))))))))))))
 refine J_loop (X:=Nat) (fun (k:Nat)=>(k≤l.length)∧(∀ i,i<k→R44.fok (l.getD i default)=true)) (fun (k:Nat)=>[(0,vL lA l.length lC),(3,Value.map (some b1)),(8,vL lA l.length lC),(9,vN l.length),(10,vN k)]) (fun (k:Nat)=>[mp vI b1 [(0,vI 200),(1,vI 18),(2,vI 8)]]) (fun (k:Nat)=>l.length-k) (0:Nat) ?_ se_ i_ ?_
 ·try dsimp only
  refine ⟨?_,?_⟩
  ·exact df_
  ·intro i hi;omega
 intro k hI1
 obtain ⟨i1_0,i1_1⟩:=hI1
 try dsimp only at i1_0
 try dsimp only at i1_1
 have hmo:=R44.most_le (l.getD k default).Kind
 try dsimp only
 refine q_ (g_ (s_ (x_lss_i rfl rfl) (z_ (n_ (q_ ?_)))))
 refine ifd (fun h2w h2=>?_) (fun h2w h2=>?_)
 ·refine sk_ (n_ (q_ (k_ (q_ (g_ (r_ (ixF SortField.enc_len (cells_ro lR) underlying138 sz179) (r_ (ldFN SortField.enc_len (cells_ro lR) ag179 sz179) (o_ (al_ ze179 fun b3=>?_)))))))))
  refine o_ (stG 0 sz179 ?_)
  refine z_ (n_ (q_ (g_ (s_ (fA 0 fi179_0) (r_ (ld_ 0 sc3) (s_ (x_lss_i rfl rfl) (s_ mv_ ?_)))))))
  refine or_ 3 (decide ((1000:Int)<(l.getD k default).At)) (fun g4=>?_) ?_
  ·have g4r:=g4
   have g4r:=of_ g4r
   refine sg_ g4 (fA 0 fi179_0) (rg_ g4 (ld_ 0 sc3) (sg_ g4 (x_gtr_i rfl rfl) ?_))
   exact cr_
  refine s_ mv_ ?_
  refine or_ 3 (decide ((l.getD k default).Length<1)) (fun g5=>?_) ?_
  ·have g5r:=g5
   have ⟨g5r,h6⟩:=bor_false g5r
   have g5r:=of_ g5r
   have h6:=of_ h6
   refine sg_ g5 (fA 1 fi179_1) (rg_ g5 (ld_ 0 sc3) (sg_ g5 (x_lss_i rfl rfl) ?_))
   exact cr_
  refine s_ mv_ ?_
  refine or_ 7 (decide ((R44.most ((l.getD k default).Kind))<(l.getD k default).Length)) (fun g7=>?_) ?_
  ·have g7r:=g7
   have ⟨g7r,h8⟩:=bor_false g7r
   have ⟨g7r,h9⟩:=bor_false g7r
   have g7r:=of_ g7r
   have h9:=of_ h9
   have h8:=of_ h8
   refine sg_ g7 (fA 1 fi179_1) (rg_ g7 (ld_ 0 sc3) (sg_ g7 mv_ (sg_ g7 (fA 2 fi179_2) (rg_ g7 (ld_ 0 sc3) ?_))))
   refine JO_read (vI (R44.most ((l.getD k default).Kind))) rfl ⟨_,rfl,g7⟩ (x_lookup_v 1 (f:=vI) (k:=(l.getD k default).Kind) rfl rfl rfl underlying210 (mapK_i underlying3) ze3 rfl (R44.most_look _)) ?_
   refine sg_ g7 (x_gtr_i rfl rfl) ?_
   exact cr_
  refine s_ mv_ ?_
  refine or_ 6 (decide ((1000:Int)<((l.getD k default).At)+((l.getD k default).Length))) (fun g10=>?_) ?_
  ·have g10r:=g10
   have ⟨g10r,h11⟩:=bor_false g10r
   have ⟨g10r,h12⟩:=bor_false g10r
   have ⟨g10r,h13⟩:=bor_false g10r
   have g10r:=of_ g10r
   have h13:=of_ h13
   have h12:=of_ h12
   have h11:=of_ h11
   refine sg_ g10 (fA 0 fi179_0) (rg_ g10 (ld_ 0 sc3) (sg_ g10 (fA 1 fi179_1) (rg_ g10 (ld_ 0 sc3) (sg_ g10 (x_add_i (a:=(l.getD k default).At) (b:=(l.getD k default).Length) rfl rfl om_ om_) (sg_ g10 (x_gtr_i rfl rfl) ?_)))))
   exact cr_
  refine z_ (n_ ?_)
  refine if_ (fun h14=>?_) (fun h14=>?_)
  ·simp only [Bool.and_eq_true,Bool.or_eq_true,Bool.and_eq_false_iff,Bool.or_eq_false_iff,Bool.not_eq_true',Bool.not_eq_false',decide_eq_true_eq,decide_eq_false_iff_not] at h14
   refine q_ (g_ (s_ av_ (z_ (xk_ [0,3,8,9,10,2] ?_))))
   refine n_ (rt_ (kq_ (nr_ (rr_ (kq_ (nr_ ?_))))))
   exact p1 results137 rfl ⟨(eB c44a5_),rfl⟩
  ·have ⟨h14,h15⟩:=bor_false h14
   have ⟨h14,h16⟩:=bor_false h14
   have ⟨h14,h17⟩:=bor_false h14
   have ⟨h14,h18⟩:=bor_false h14
   have h14:=of_ h14
   have h18:=of_ h18
   have h17:=of_ h17
   have h16:=of_ h16
   have h15:=of_ h15
   refine sk_ (kx_ (n_ (g_ (s_ (x_add_n (a:=k) (b:=1) rfl rfl om_) (s_ mv_ (z_ ?_))))))
   refine JX_round (k+1:Nat) ?_ ?_ se_ (fun _ h=>h.keep [F_,T_] rfl)
   ·try dsimp only
    refine ⟨?_,?_⟩
    ·exact df_
    ·intro i hi
     by_cases hik:i=k
     ·subst hik;exact R44.fok_good om_
     ·exact i1_1 i om_
   ·try dsimp only
    first | omega | (simp;omega) | (simp_all;omega)
 ·refine J_exit (ne_ (re_ (kh_ (n_ (q_ ?_)))))
  refine g_ (s_ mv_ (s_ (lnS underlying138) (s_ (x_leq_i rfl rfl) (s_ av_ (z_ (n_ (rt_ ?_)))))))
  exact p1 results137 rfl ⟨(eB c44a5_),rfl⟩
theorem f177_ok (s:Bytes) (f:SortField) (w:World) (q0:R44.fok f=true) (q1:s.length≤1000000000):Calls prog 177 #[vS s,vG (SortField.enc f)] w (Gives [] w fun v L=>v=vS (R44.fld s f)∧L=[]):=by
 have hff:=R44.fok_facts q0
 have hfm:=R44.most_le f.Kind
 refine calls_J [] 30 func177 rfl ntmps177 [(0,_),(1,_)] rfl rfl (Give.nil w) ?_
 refine q_ (g_ (o_ (bxG fun b1=>?_)))
 refine s_ av_ (z_ (n_ (q_ (q_ (g_ (s_ (fA 0 fi179_0) (r_ (ld_ 0 sc3) (s_ mv_ (s_ (x_len_s rfl underlying9) (s_ (x_geq_i rfl rfl) (z_ (n_ ?_))))))))))))
 refine ifd (fun h2w h2=>?_) (fun h2w h2=>?_)
 ·refine g_ (s_ av_ (z_ (n_ (q_ (g_ (s_ mv_ (s_ (fA 1 fi179_1) (r_ (ld_ 0 sc3) (s_ mv_ (s_ (x_len_s rfl underlying9) (s_ (x_sub_i (a:=f.Length) (b:=0) rfl rfl om_ om_) (c0 (cl_ ca189) (fun w hS=>repeat_spec [32] _ w hy_ hy_ hy_) ?_))))))))))))
  have ha3:=rep_length [32] (f.Length-0).toNat
  try simp only [List.length_cons,List.length_nil,Nat.zero_add,Nat.reduceAdd,Nat.reduceMul] at ha3
  refine s_ (x_cat_s rfl rfl c44a6_) (s_ av_ (z_ (n_ (rt_ ?_))))
  exact p1 results177 rfl ⟨(eS c44a7_),rfl⟩
 ·refine g_ (s_ mv_ (s_ (fA 0 fi179_0) (r_ (ld_ 0 sc3) (s_ mv_ (s_ (x_len_s rfl underlying9) (s_ (fA 0 fi179_0) (r_ (ld_ 0 sc3) (s_ (fA 1 fi179_1) (r_ (ld_ 0 sc3) ?_)))))))))
  refine s_ (x_add_i (a:=f.At) (b:=f.Length) rfl rfl om_ om_) (s_ (x_min_i (a:=((s.length:Nat):Int)) (b:=f.At+f.Length) rfl rfl) (s_ (x_sub_s (lo:=(f.At).toNat) (hi:=(min ((s.length:Nat):Int) (f.At+f.Length)).toNat) rfl underlying9 (.inl (lo_i om_)) (.inl (lo_i om_)) lt_ c44a8_) ?_))
  have hsl4:=sub_length s ((f.At).toNat) ((min ((s.length:Nat):Int) (f.At+f.Length)).toNat) lt_
  refine s_ av_ (z_ (xk_ [0,3,4] ?_))
  refine n_ (q_ (g_ (s_ mv_ (s_ (fA 1 fi179_1) (r_ (ld_ 0 sc3) (s_ mv_ (s_ (x_len_s rfl underlying9) (s_ (x_sub_i (a:=f.Length) (b:=(((sub s ((f.At).toNat) ((min ((s.length:Nat):Int) (f.At+f.Length)).toNat)).length:Nat):Int)) rfl rfl om_ om_) (c0 (cl_ ca189) (fun w hS=>repeat_spec [32] _ w hy_ hy_ hy_) ?_)))))))))
  have ha5:=rep_length [32] (f.Length-(((sub s ((f.At).toNat) ((min ((s.length:Nat):Int) (f.At+f.Length)).toNat)).length:Nat):Int)).toNat
  try simp only [List.length_cons,List.length_nil,Nat.zero_add,Nat.reduceAdd,Nat.reduceMul] at ha5
  refine s_ (x_cat_s rfl rfl c44a6_) (s_ av_ (z_ (n_ (rt_ ?_))))
  exact p1 results177 rfl ⟨(eS c44a7_),rfl⟩
theorem f194_ok (x:Int) (w:World):Calls prog 194 #[vI x] w (Gives [] w fun v L=>v=vB false∧L=[]):=by
 refine calls_J [] 6 func194 rfl ntmps194 [(0,_)] rfl rfl (Give.nil w) ?_
 refine q_ (g_ (s_ av_ (z_ (n_ (q_ (g_ (s_ mv_ (s_ mv_ (s_ (x_neq_i rfl rfl) (s_ av_ (z_ (n_ (rt_ ?_)))))))))))))
 exact p1 results194 rfl ⟨(eB (decide_eq_false (fun h=>h rfl))),rfl⟩
theorem f192_ok (x:Int) (w:World):Calls prog 192 #[vI x] w (Gives [] w fun v L=>v=vB false∧L=[]):=by
 refine calls_J [] 6 func192 rfl ntmps192 [(0,_)] rfl rfl (Give.nil w) ?_
 refine q_ (g_ (s_ av_ (z_ (n_ (q_ (g_ (s_ mv_ (s_ mv_ (s_ (x_neq_i rfl rfl) (s_ av_ (z_ (n_ (rt_ ?_)))))))))))))
 exact p1 results192 rfl ⟨(eB (decide_eq_false (fun h=>h rfl))),rfl⟩
theorem f183_ok (x:Int) (y:Int) (w:World):Calls prog 183 #[vI x,vI y] w (Gives [] w fun v L=>v=vI (R44.cmpI x y)∧L=[]):=by
 refine calls_J [] 20 func183 rfl ntmps183 [(0,_),(1,_)] rfl rfl (Give.nil w) ?_
 refine q_ (g_ (s_ av_ (z_ (n_ (q_ (g_ (s_ mv_ (c0 (cl_ ca194) (fun w hS=>f194_ok x w) (s_ av_ (z_ (n_ (q_ (g_ (s_ mv_ (c0 (cl_ ca194) (fun w hS=>f194_ok y w) (s_ av_ ?_))))))))))))))))
 refine z_ (n_ (q_ (q_ (g_ (s_ mv_ (z_ (n_ (iff_ (sk_ (n_ (q_ (q_ (g_ (s_ mv_ (z_ (n_ (iff_ (sk_ (n_ (q_ (q_ (g_ (s_ mv_ (s_ mv_ (s_ (x_lss_i rfl rfl) ?_)))))))))))))))))))))))))
 refine z_ (n_ ?_)
 refine ifd (fun h1w h1=>?_) (fun h1w h1=>?_)
 ·refine q_ (g_ (s_ av_ (z_ (n_ (rt_ (nr_ ?_))))))
  exact p1 results183 rfl ⟨(eI c44a1_),rfl⟩
 ·refine sk_ (n_ (q_ (q_ (g_ (s_ mv_ (s_ mv_ (s_ (x_gtr_i rfl rfl) (z_ (n_ ?_)))))))))
  refine ifd (fun h2w h2=>?_) (fun h2w h2=>?_)
  ·refine q_ (g_ (s_ av_ (z_ (n_ (rt_ (nr_ ?_))))))
   exact p1 results183 rfl ⟨(eI c44a1_),rfl⟩
  ·refine sk_ (n_ (q_ (g_ (s_ av_ (z_ (n_ (rt_ ?_)))))))
   exact p1 results183 rfl ⟨(eI c44a1_),rfl⟩
theorem f179_ok (x:Int) (y:Int) (w:World):Calls prog 179 #[vI x,vI y] w (Gives [] w fun v L=>v=vI (R44.cmpI x y)∧L=[]):=by
 refine calls_J [] 20 func179 rfl ntmps179 [(0,_),(1,_)] rfl rfl (Give.nil w) ?_
 refine q_ (g_ (s_ av_ (z_ (n_ (q_ (g_ (s_ mv_ (c0 (cl_ ca192) (fun w hS=>f192_ok x w) (s_ av_ (z_ (n_ (q_ (g_ (s_ mv_ (c0 (cl_ ca192) (fun w hS=>f192_ok y w) (s_ av_ ?_))))))))))))))))
 refine z_ (n_ (q_ (q_ (g_ (s_ mv_ (z_ (n_ (iff_ (sk_ (n_ (q_ (q_ (g_ (s_ mv_ (z_ (n_ (iff_ (sk_ (n_ (q_ (q_ (g_ (s_ mv_ (s_ mv_ (s_ (x_lss_i rfl rfl) ?_)))))))))))))))))))))))))
 refine z_ (n_ ?_)
 refine ifd (fun h1w h1=>?_) (fun h1w h1=>?_)
 ·refine q_ (g_ (s_ av_ (z_ (n_ (rt_ (nr_ ?_))))))
  exact p1 results179 rfl ⟨(eI c44a1_),rfl⟩
 ·refine sk_ (n_ (q_ (q_ (g_ (s_ mv_ (s_ mv_ (s_ (x_gtr_i rfl rfl) (z_ (n_ ?_)))))))))
  refine ifd (fun h2w h2=>?_) (fun h2w h2=>?_)
  ·refine q_ (g_ (s_ av_ (z_ (n_ (rt_ (nr_ ?_))))))
   exact p1 results179 rfl ⟨(eI c44a1_),rfl⟩
  ·refine sk_ (n_ (q_ (g_ (s_ av_ (z_ (n_ (rt_ ?_)))))))
   exact p1 results179 rfl ⟨(eI c44a1_),rfl⟩
theorem f178_ok (s:Bytes) (w:World) (q0:s.length≤18):Calls prog 178 #[vS s] w (Gives [] w fun v L=>v=Value.tuple #[vI ((R44.dec s).getD 0),vB ((R44.dec s).isSome)]∧L=[]):=by
 refine calls_J [] 42 func178 rfl ntmps178 [(0,_)] rfl rfl (Give.nil w) ?_
 refine q_ (g_ (s_ av_ (s_ av_ (z_ (n_ (q_ (g_ (s_ mv_ (c0 (cl_ ca190) (fun w hS=>trim_ok s w hy_) ?_)))))))))
 have ha1:=R44.trims_len s
 refine s_ av_ (z_ (n_ (q_ (g_ (s_ mv_ (c0 (cl_ ca191) (fun w hS=>cutp_ok _ w) ?_))))))
 have ha2:=R44.cutM_len (R44.trimR (R44.trimL s))
 refine s_ mv_ (s_ (ex_ 0) (s_ (ex_ 1) (s_ av_ (s_ av_ (z_ (n_ (q_ (q_ (g_ (s_ mv_ (js_ (vB (decide ((R44.cutM (R44.trimR (R44.trimL s))).1=([]:Bytes)))) (x_eql_s rfl rfl) (z_ (n_ ?_)))))))))))))
 refine ifd (fun h3w h3=>?_) (fun h3w h3=>?_)
 ·try have hi4:=R44.digP h3w
  try have hi5:=R44.digN h3w
  refine q_ (g_ (s_ av_ (s_ av_ (z_ (n_ (rt_ (nr_ ?_)))))))
  exact p2 results178 rfl rfl ⟨t2 (eI c44a0_) (eB c44a0_),rfl⟩
 ·try have hi6:=R44.digP h3w
  try have hi7:=R44.digN h3w
  have h3l:=List.length_pos_iff.2 h3
  refine sk_ (n_ (q_ (g_ (s_ av_ (z_ (n_ (q_ (q_ (g_ (s_ mv_ (o_ (O_str_bytes ((R44.cutM (R44.trimR (R44.trimL s))).1) rfl underlying9 underlying117 underlying5 fun b8 c9 z10 hz11=>?_))))))))))))
  refine s_ (lnS underlying117) (s_ mv_ (z_ (n_ (k_ ?_))))
  refine J_loop (X:=Nat × Int) (fun (⟨k,n⟩:Nat × Int)=>(R44.num ((R44.cutM (R44.trimR (R44.trimL s))).1.drop k) n=R44.num (R44.cutM (R44.trimR (R44.trimL s))).1 0)∧(k≤(R44.cutM (R44.trimR (R44.trimL s))).1.length)∧(0≤n)∧(n<10 ^ k)) (fun (⟨k,n⟩:Nat × Int)=>[(5,vB ((R44.cutM (R44.trimR (R44.trimL s))).2)),(6,vI n),(19,vL (some ⟨b8,0,none⟩) (((R44.cutM (R44.trimR (R44.trimL s))).1).length) c9),(20,vI ((((R44.cutM (R44.trimR (R44.trimL s))).1).length:Nat):Int)),(21,vN k)]) (fun (⟨k,n⟩:Nat × Int)=>[blk b8 5 ((((R44.cutM (R44.trimR (R44.trimL s))).1)++List.replicate z10 (0:UInt8)).map vU8) (((R44.cutM (R44.trimR (R44.trimL s))).1).length+z10,((R44.cutM (R44.trimR (R44.trimL s))).1).length+z10+1)]) (fun (⟨k,n⟩:Nat × Int)=>(R44.cutM (R44.trimR (R44.trimL s))).1.length-k) ((0,0):Nat × Int) ?_ se_ i_ ?_
  ·try dsimp only
   refine ⟨?_,?_,?_,?_⟩
   ·rfl
   ·exact df_
   ·exact df_
   ·decide
  rintro ⟨k,n⟩ hI1
  obtain ⟨i1_0,i1_1,i1_2,i1_3⟩:=hI1
  try dsimp only at i1_0
  try dsimp only at i1_1
  try dsimp only at i1_2
  try dsimp only at i1_3
  have hpl:=R44.pow_or (k:=k) om_
  try dsimp only
  refine q_ (g_ (s_ (x_lss_i rfl rfl) (z_ (n_ (q_ ?_)))))
  refine ifd (fun h12w h12=>?_) (fun h12w h12=>?_)
  ·try have hi13:=R44.digP h12w
   try have hi14:=R44.digN h12w
   refine sk_ (n_ (q_ (k_ (q_ (g_ (s_ (x_indexAddr_sl (k:=k) underlying117 sz5 rfl rfl lt_ (add_0k1 _ _)) (r_ (x_load_arr 0 vU8 0 rfl rfl sc5 lt_) (s_ av_ (z_ (n_ (q_ (q_ (g_ (s_ mv_ (js_ (vB (decide (((((R44.cutM (R44.trimR (R44.trimL s))).1)++List.replicate z10 (0:UInt8)).getD k 0)<(48:UInt8)))) (x_lss_u8 rfl rfl) (s_ mv_ ?_))))))))))))))))
   refine or_ 2 (decide ((57:UInt8)<((((R44.cutM (R44.trimR (R44.trimL s))).1)++List.replicate z10 (0:UInt8)).getD k 0))) (fun g15=>?_) ?_
   ·have g15r:=g15
    have g15r:=of_ g15r
    have g15ru:=g15r
    try simp only [UInt8.lt_iff_toNat_lt,UInt8.le_iff_toNat_le,UInt8.reduceToNat,UInt32.lt_iff_toNat_lt,UInt32.le_iff_toNat_le,UInt32.reduceToNat,UInt64.lt_iff_toNat_lt,UInt64.le_iff_toNat_le,UInt64.reduceToNat] at g15ru
    refine sg_ g15 mv_ (jg_ g15 (vB (decide ((57:UInt8)<((((R44.cutM (R44.trimR (R44.trimL s))).1)++List.replicate z10 (0:UInt8)).getD k 0)))) (x_gtr_u8 rfl rfl) ?_)
    exact cr_
   refine z_ (n_ ?_)
   refine if_ (fun h16=>?_) (fun h16=>?_)
   ·have h16w:=h16
    try have hi17:=R44.digP h16w
    try have hi18:=R44.digN h16w
    simp only [Bool.and_eq_true,Bool.or_eq_true,Bool.and_eq_false_iff,Bool.or_eq_false_iff,Bool.not_eq_true',Bool.not_eq_false',decide_eq_true_eq,decide_eq_false_iff_not] at h16
    refine q_ (g_ (s_ av_ (s_ av_ (z_ (n_ (rt_ (nr_ (kq_ (nr_ (rr_ (kq_ (nr_ ?_))))))))))))
    exact p2 results178 rfl rfl ⟨t2 (eI c44a0_) (eB c44a0_),rfl⟩
   ·have h16w:=h16
    try have hi19:=R44.digP h16w
    try have hi20:=R44.digN h16w
    have ⟨h16,h21⟩:=bor_false h16
    have h16:=of_ h16
    have h16u:=h16
    try simp only [UInt8.lt_iff_toNat_lt,UInt8.le_iff_toNat_le,UInt8.reduceToNat,UInt32.lt_iff_toNat_lt,UInt32.le_iff_toNat_le,UInt32.reduceToNat,UInt64.lt_iff_toNat_lt,UInt64.le_iff_toNat_le,UInt64.reduceToNat] at h16u
    have h21:=of_ h21
    have h21u:=h21
    try simp only [UInt8.lt_iff_toNat_lt,UInt8.le_iff_toNat_le,UInt8.reduceToNat,UInt32.lt_iff_toNat_lt,UInt32.le_iff_toNat_le,UInt32.reduceToNat,UInt64.lt_iff_toNat_lt,UInt64.le_iff_toNat_le,UInt64.reduceToNat] at h21u
    refine sk_ (n_ (g_ (s_ mv_ (s_ (x_mul_i (a:=10) (b:=n) rfl rfl om_ om_) (s_ mv_ (js_ (vU8 (((((R44.cutM (R44.trimR (R44.trimL s))).1)++List.replicate z10 (0:UInt8)).getD k 0)-48)) (x_sub_u8 rfl rfl) (s_ (x_conv_u8_i64 rfl underlying5 underlying2) (s_ (x_add_i (a:=10*n) (b:=(((((((R44.cutM (R44.trimR (R44.trimL s))).1)++List.replicate z10 (0:UInt8)).getD k 0)-48).toNat:Nat):Int)) rfl rfl lt_ lt_) (s_ av_ (z_ (kx_ (n_ (g_ (s_ (x_add_n (a:=k) (b:=1) rfl rfl om_) ?_))))))))))))))
    refine s_ mv_ (z_ ?_)
    refine JX_round ((k+1,(10*n)+(((((((R44.cutM (R44.trimR (R44.trimL s))).1)++List.replicate z10 (0:UInt8)).getD k 0)-48).toNat:Nat):Int)):Nat × Int) ?_ ?_ se_ i_
    ·try dsimp only
     refine ⟨?_,?_,?_,?_⟩
     ·rw [← i1_0];exact R44.num_stepP om_ om_ om_
     ·exact df_
     ·exact (R44.pow_stepP i1_2 i1_3 om_ om_).1
     ·exact (R44.pow_stepP i1_2 i1_3 om_ om_).2
    ·try dsimp only
     first | omega | (simp;omega) | (simp_all;omega)
  ·try have hi22:=R44.digP h12w
   try have hi23:=R44.digN h12w
   refine J_exit (ne_ (re_ (kh_ (n_ (q_ ?_)))))
   refine q_ (g_ (s_ mv_ (z_ (n_ ?_))))
   refine if_ (fun h24=>?_) (fun h24=>?_)
   ·have h24w:=h24
    try have hi25:=R44.digP h24w
    try have hi26:=R44.digN h24w
    refine g_ (s_ mv_ (s_ (x_neg_i (a:=n) rfl om_ om_) (s_ av_ (z_ (n_ (q_ (g_ (s_ mv_ (s_ av_ (s_ av_ (z_ (n_ (rt_ ?_)))))))))))))
    exact p2 results178 rfl rfl ⟨t2 (eI c44a0_) (eB c44a0_),rfl⟩
   ·have h24w:=h24
    try have hi27:=R44.digP h24w
    try have hi28:=R44.digN h24w
    refine sk_ (n_ (q_ (g_ (s_ mv_ (s_ av_ (s_ av_ (z_ (n_ (rt_ ?_)))))))))
    exact p2 results178 rfl rfl ⟨t2 (eI c44a0_) (eB c44a0_),rfl⟩
theorem f180_ok (s:Bytes) (w:World) (q0:0<s.length) (q1:s.length≤8):Calls prog 180 #[vS s] w (Gives [] w fun v L=>v=vI (R44.bin s)∧L=[]):=by
 refine calls_J [] 25 func180 rfl ntmps180 [(0,_)] rfl rfl (Give.nil w) ?_
 refine q_ (g_ (s_ av_ (z_ (n_ (q_ (g_ (s_ mv_ (s_ (x_idx_s (k:=0) rfl rfl underlying9 om_) (s_ (x_conv_u8_i8 rfl underlying5 underlying256) (s_ (x_conv_i8_i64 rfl underlying256 underlying2 (int8_lt _).1 (int8_lt _).2) (s_ av_ (z_ (n_ (q_ (q_ (g_ (s_ mv_ ?_)))))))))))))))))
 refine s_ (x_sub_s (lo:=1) (hi:=s.length) rfl underlying9 (.inl rfl) (.inr ⟨rfl,rfl⟩) lt_ c44a8_) ?_
 have hsl1:=sub_length s 1 s.length lt_
 refine o_ (O_str_bytes (sub s 1 s.length) rfl underlying9 underlying117 underlying5 fun b2 c3 z4 hz5=>?_)
 refine s_ (lnS underlying117) (s_ mv_ (z_ (n_ (k_ ?_))))
 refine J_loop (X:=Nat × Int) (fun (⟨k,n⟩:Nat × Int)=>(k≤s.length-1)∧(n=R44.bin (s.take (k+1)))) (fun (⟨k,n⟩:Nat × Int)=>[(2,vI 0),(3,vI n),(12,vL (some ⟨b2,0,none⟩) ((sub s 1 s.length).length) c3),(13,vI (((sub s 1 s.length).length:Nat):Int)),(14,vN k)]) (fun (⟨k,n⟩:Nat × Int)=>[blk b2 5 (((sub s 1 s.length)++List.replicate z4 (0:UInt8)).map vU8) ((sub s 1 s.length).length+z4,(sub s 1 s.length).length+z4+1)]) (fun (⟨k,n⟩:Nat × Int)=>s.length-1-k) ((0,(int8 (s.getD 0 0))):Nat × Int) ?_ se_ i_ ?_
 ·try dsimp only
  refine ⟨?_,?_⟩
  ·exact df_
  ·exact R44.bin_first q0
 rintro ⟨k,n⟩ hI1
 obtain ⟨i1_0,i1_1⟩:=hI1
 try dsimp only at i1_0
 try dsimp only at i1_1
 have hbb:=R44.bin_or (k:=k) q0 q1
 try dsimp only
 refine q_ (g_ (s_ (x_lss_i rfl rfl) (z_ (n_ (q_ ?_)))))
 refine ifd (fun h6w h6=>?_) (fun h6w h6=>?_)
 ·refine sk_ (n_ (q_ (k_ (q_ (g_ (s_ (x_indexAddr_sl (k:=k) underlying117 sz5 rfl rfl lt_ (add_0k1 _ _)) (r_ (x_load_arr 0 vU8 0 rfl rfl sc5 lt_) (s_ av_ (z_ (n_ (g_ (s_ mv_ (js_ (vI (n*2 ^ 8)) (x_shl_i (a:=n) (m:=8) rfl rfl dd_ om_ om_) (s_ mv_ (s_ (x_conv_u8_i64 rfl underlying5 underlying2) (s_ (x_or_hi (n:=n) (a:=n*2 ^ 8) (c:=(((sub s 1 s.length)++List.replicate z4 (0:UInt8)).getD k 0).toNat) rfl rfl om_ (by first | omega | exact UInt8.toNat_lt _ | (simp;omega)) om_ om_) ?_))))))))))))))))
  refine s_ av_ (z_ (kx_ (n_ (g_ (s_ (x_add_n (a:=k) (b:=1) rfl rfl om_) (s_ mv_ (z_ ?_)))))))
  refine JX_round ((k+1,(n*2 ^ 8)+(((((sub s 1 s.length)++List.replicate z4 (0:UInt8)).getD k 0).toNat:Nat):Int)):Nat × Int) ?_ ?_ se_ i_
  ·try dsimp only
   refine ⟨?_,?_⟩
   ·exact df_
   ·exact R44.bin_stepP om_ q0 i1_1
  ·try dsimp only
   first | omega | (simp;omega) | (simp_all;omega)
 ·refine J_exit (ne_ (re_ (kh_ (n_ (q_ ?_)))))
  refine g_ (s_ mv_ (s_ av_ (z_ (n_ (rt_ ?_)))))
  exact p1 results180 rfl ⟨(eI (by rw [i1_1,show k+1=s.length by omega,List.take_length])),rfl⟩
theorem c44q0_ {p:Prop} (h:p:=by first | exact R44.ix_hit om_ i1_1 as_ | exact R44.ix_end om_ i1_1):p:=h
theorem f132_ok (s:Bytes) (w:World) (q0:s.length≤1000000):Calls prog 132 #[vS s] w (GivesW [] w fun v L wx=>∃ out:LB_,∃ outA:OA_,∃ outC:Nat,v=vL outA out.length outC∧L=[]∧RO (List.range w.heap.size) wx outA (out.map vS)∧out.length≤outC∧(out=R44.words s)):=by
 refine calls_JW [] 5 func132 rfl ntmps132 [(0,_)] rfl rfl (Give.nil w) ?_
 refine q_ (g_ (s_ av_ (z_ (n_ (q_ (g_ (s_ mv_ ?_)))))))
 refine c1 (cl_ ca105) (fun w hS=>fields1_ok s w hy_) ?_
 rintro _ _ ⟨e1,e2,rfl,rfl⟩
 refine s_ av_ (z_ (n_ (rt_ ?_)))
 refine JX_retsD [_] _ results132 (fun w h=>⟨rfl,trivial⟩) rfl _ (fun _ h=>h.keep [F_] rfl) (fun _ _ h=>h) (fun wx hw=>⟨(R44.words s),e1,e2,?_,?_,(RO.of_rowF (Lc:=[]) hw hw 0 rfl),(row_le (hw.mem (j:=0) rfl)),?_⟩)
 ·rfl
 ·rfl
 ·rfl
theorem f134_ok (s:Bytes) (w:World) (hT:Tab [] w) (q0:s.length≤1000000):Calls prog 134 #[vS s] w (Gives [] w fun v L=>∃ n:Int,∃ ok:Bool,v=Value.tuple #[vI n,vB ok]∧L=[]∧(R44.SmallJ s n ok)):=by
 refine calls_J [] 28 func134 rfl ntmps134 [(0,_)] rfl rfl (Give.nil w) ?_
 refine q_ (g_ (s_ av_ (s_ av_ (z_ (n_ (q_ (g_ (s_ mv_ ?_))))))))
 refine c1 (cl_ ca82) (fun w hS=>atoi_ok s w (hT.on hS (fun _ h=>by cases h)) hy_) ?_
 rintro _ _ ⟨n1,er2,N3,rfl,rfl,hf4⟩
 have ha5:=R44.atoi_bd as_
 refine s_ mv_ (s_ (ex_ 0) (s_ (ex_ 1) (s_ av_ (s_ av_ (z_ (n_ (q_ (g_ (s_ mv_ (s_ mv_ (s_ (x_eql_err rfl underlying127) (s_ mv_ ?_))))))))))))
 refine and_ 2 (decide ((0:Int)≤n1)) (fun g6=>?_) ?_
 ·have g6r:=g6
  refine sg_ g6 mv_ (sg_ g6 (x_geq_i rfl rfl) ?_)
  exact cr_
 refine s_ mv_ ?_
 refine and_ 2 (decide (n1≤9999)) (fun g7=>?_) ?_
 ·have g7r:=g7
  have ⟨g7r,h8⟩:=band_true g7r
  have h8:=ot_ h8
  refine sg_ g7 mv_ (sg_ g7 (x_leq_i rfl rfl) ?_)
  exact cr_
 refine s_ mv_ ?_
 refine and_ 4 (decide (Lib.decDigits n1.toNat=s)) (fun g9=>?_) ?_
 ·have g9r:=g9
  have ⟨g9r,h10⟩:=band_true g9r
  have ⟨g9r,h11⟩:=band_true g9r
  have h11:=ot_ h11
  have h10:=ot_ h10
  refine sg_ g9 mv_ (c0g g9 (cl_ ca19) (fun w hS=>itoa_ok n1 w (hT.on hS (fun _ h=>by cases h)) hy_ hy_) ?_)
  have ha12:=R44.dec_lenI n1 om_
  refine sg_ g9 mv_ (sg_ g9 (x_eql_s rfl rfl) ?_)
  exact cr_
 refine s_ av_ (s_ av_ (z_ (n_ (rt_ ?_))))
 refine JX_rets [_,_] (Value.tuple #[_,_]) results134 (fun w h=>⟨rfl,rfl,trivial⟩) rfl _ i_ ⟨n1,(((er2&&(decide ((0:Int)≤n1)))&&(decide (n1≤9999)))&&(decide (Lib.decDigits n1.toNat=s))),?_,?_,?_⟩
 ·rfl
 ·rfl
 ·exact R44.small_of as_
theorem f136_ok (xs:LB_) (xsA:OA_) (xsC:Nat) (x:Bytes) (w:World) (xsR:RO [] w xsA (xs.map vS)) (q0:xs.length≤9223372036854775807):Calls prog 136 #[vL xsA xs.length xsC,vS x] w (Gives [] w fun v L=>v=vI (R44.ixOf xs x)∧L=[]):=by
 refine calls_J [] 19 func136 rfl ntmps136 [(0,_),(1,_)] rfl rfl (Give.nil w) ?_
 refine q_ (g_ (s_ av_ (z_ (n_ (q_ (q_ (g_ (s_ mv_ (s_ (lnS underlying25) (s_ mv_ (z_ (n_ (k_ ?_)))))))))))))
 refine J_loop (X:=Nat) (fun (k:Nat)=>(k≤xs.length)∧(R44.ixFrom (xs.drop k) x k=R44.ixOf xs x)) (fun (k:Nat)=>[(0,vL xsA xs.length xsC),(1,vS x),(7,vN xs.length),(8,vN k)]) (fun (k:Nat)=>[]) (fun (k:Nat)=>xs.length-k) (0:Nat) ?_ se_ i_ ?_
 ·try dsimp only
  refine ⟨?_,?_⟩
  ·exact df_
  ·rfl
 intro k hI1
 obtain ⟨i1_0,i1_1⟩:=hI1
 try dsimp only at i1_0
 try dsimp only at i1_1
 try dsimp only
 refine q_ (g_ (s_ (x_lss_i rfl rfl) (z_ (n_ (q_ ?_)))))
 refine ifd (fun h1w h1=>?_) (fun h1w h1=>?_)
 ·refine sk_ (n_ (q_ (k_ (q_ (g_ (s_ mv_ (s_ av_ (z_ (n_ (q_ (g_ (s_ mv_ (s_ mv_ (s_ mv_ (r_ (ixM (cells_ro xsR) underlying25 sz9) (r_ (ldM vS [] (cells_ro xsR) sc9) (s_ (x_eql_s rfl rfl) ?_)))))))))))))))))
  refine z_ (n_ ?_)
  refine ifd (fun h2w h2=>?_) (fun h2w h2=>?_)
  ·refine q_ (g_ (s_ mv_ (s_ av_ (z_ (n_ (rt_ (kq_ (nr_ (rr_ (kq_ (nr_ ?_)))))))))))
   exact p1 results136 rfl ⟨(eI c44q0_),rfl⟩
  ·refine sk_ (kx_ (n_ (g_ (s_ (x_add_n (a:=k) (b:=1) rfl rfl om_) (s_ mv_ (z_ ?_))))))
   refine JX_round (k+1:Nat) ?_ ?_ se_ i_
   ·try dsimp only
    refine ⟨?_,?_⟩
    ·exact df_
    ·exact R44.ix_go om_ i1_1 as_
   ·try dsimp only
    first | omega | (simp;omega) | (simp_all;omega)
 ·refine J_exit (ne_ (re_ (kh_ (n_ (q_ ?_)))))
  refine g_ (s_ av_ (z_ (n_ (rt_ ?_))))
  exact p1 results136 rfl ⟨(eI c44q0_),rfl⟩
theorem f135_ok (xs:LB_) (xsA:OA_) (xsC:Nat) (x:Bytes) (w:World) (xsR:RO [] w xsA (xs.map vS)) (q0:xs.length≤9223372036854775807):Calls prog 135 #[vL xsA xs.length xsC,vS x] w (Gives [] w fun v L=>v=vB (decide (0≤R44.ixOf xs x))∧L=[]):=by
 refine calls_J [] 9 func135 rfl ntmps135 [(0,_),(1,_)] rfl rfl (Give.nil w) ?_
 refine q_ (g_ (s_ av_ (z_ (n_ (q_ (g_ (s_ mv_ (s_ mv_ (c0 (cl_ ca136) (fun w hS=>f136_ok xs xsA xsC x w (rno xsR hS) hy_) ?_)))))))))
 have ha1:=R44.ixOf_bd xs x
 refine s_ (x_geq_i rfl rfl) (s_ av_ (z_ (n_ (rt_ ?_))))
 exact p1 results135 rfl ⟨(eB (by rfl)),rfl⟩
end Go.Proofs.YtggobegaiijhhaaGreatDoor
