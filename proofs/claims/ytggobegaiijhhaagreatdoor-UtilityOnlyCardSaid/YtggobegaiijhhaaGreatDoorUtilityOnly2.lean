/- GvB, GvC, GvD, GvE in one text. -/
import Derived.Test.YtggobegaiijhhaaGreatDoorGvA
set_option linter.unusedVariables false
set_option linter.unusedSimpArgs false
namespace Go.GV
abbrev vB (b:Bool):Value:=.bool b
abbrev vI (n:Int):Value:=.int .i64 n
abbrev vU8 (x:UInt8):Value:=.int .u8 (x.toNat:Int)
abbrev vU16 (x:UInt16):Value:=.int .u16 (x.toNat:Int)
abbrev vU32 (x:UInt32):Value:=.int .u32 (x.toNat:Int)
abbrev vU64 (x:UInt64):Value:=.int .u64 (x.toNat:Int)
abbrev Bytes:=List UInt8
abbrev vS (l:Bytes):Value:=.string ⟨l.toArray⟩
theorem wrap_i64_in (n:Int) (h1 : -9223372036854775808≤n) (h2:n≤9223372036854775807):IntKind.i64.wrap n=n:=by
  rw [IntKind.wrap_i64];omega
theorem i64_max:IntKind.i64.max=9223372036854775807:=by decide
section
variable {E:Env} {P:Program} {w:World} {x y z:Operand} {dst:Option Nat} {t t' ty u:TypeId} {pos:String} {af:Array Edge} {g:Option (Nat × Bool)}
theorem x_lss_i {a b:Int} (hx:ev E x=vI a) (hy:ev E y=vI b):(execOp (ev E) ⟨dst,.binOp .lss t x y t',ty,pos,af,g⟩).run P w = .ok (.value (vB (decide (a<b)))) w:=by simp only [execOp,hx,hy];rfl
theorem x_leq_i {a b:Int} (hx:ev E x=vI a) (hy:ev E y=vI b):(execOp (ev E) ⟨dst,.binOp .leq t x y t',ty,pos,af,g⟩).run P w = .ok (.value (vB (decide (a≤b)))) w:=by simp only [execOp,hx,hy];rfl
theorem x_gtr_i {a b:Int} (hx:ev E x=vI a) (hy:ev E y=vI b):(execOp (ev E) ⟨dst,.binOp .gtr t x y t',ty,pos,af,g⟩).run P w = .ok (.value (vB (decide (b<a)))) w:=by simp only [execOp,hx,hy];rfl
theorem x_geq_i {a b:Int} (hx:ev E x=vI a) (hy:ev E y=vI b):(execOp (ev E) ⟨dst,.binOp .geq t x y t',ty,pos,af,g⟩).run P w = .ok (.value (vB (decide (b≤a)))) w:=by simp only [execOp,hx,hy];rfl
theorem int_beq (a b:Int):(a == b)=decide (a=b):=by rw [Bool.eq_iff_iff];simp
theorem int_bne (a b:Int):(a != b)=decide (a≠b):=by rw [Bool.eq_iff_iff];simp
theorem x_eql_i {a b:Int} (hx:ev E x=vI a) (hy:ev E y=vI b):(execOp (ev E) ⟨dst,.binOp .eql t x y t',ty,pos,af,g⟩).run P w = .ok (.value (vB (decide (a=b)))) w:=by rw [← int_beq];simp only [execOp,hx,hy];rfl
theorem x_neq_i {a b:Int} (hx:ev E x=vI a) (hy:ev E y=vI b):(execOp (ev E) ⟨dst,.binOp .neq t x y t',ty,pos,af,g⟩).run P w = .ok (.value (vB (decide (a≠b)))) w:=by rw [← int_bne];simp only [execOp,hx,hy];rfl
theorem x_add_iw {a b:Int} (hx:ev E x=vI a) (hy:ev E y=vI b):(execOp (ev E) ⟨dst,.binOp .add t x y t',ty,pos,af,g⟩).run P w = .ok (.value (vI (IntKind.i64.wrap (a+b)))) w:=by simp only [execOp,hx,hy];rfl
theorem x_add_i {a b:Int} (hx:ev E x=vI a) (hy:ev E y=vI b) (h1 : -9223372036854775808≤a+b) (h2:a+b≤9223372036854775807):(execOp (ev E) ⟨dst,.binOp .add t x y t',ty,pos,af,g⟩).run P w = .ok (.value (vI (a+b))) w:=by
  rw [x_add_iw hx hy,wrap_i64_in _ h1 h2]
theorem x_sub_iw {a b:Int} (hx:ev E x=vI a) (hy:ev E y=vI b):(execOp (ev E) ⟨dst,.binOp .sub t x y t',ty,pos,af,g⟩).run P w = .ok (.value (vI (IntKind.i64.wrap (a-b)))) w:=by simp only [execOp,hx,hy];rfl
theorem x_sub_i {a b:Int} (hx:ev E x=vI a) (hy:ev E y=vI b) (h1 : -9223372036854775808≤a-b) (h2:a-b≤9223372036854775807):(execOp (ev E) ⟨dst,.binOp .sub t x y t',ty,pos,af,g⟩).run P w = .ok (.value (vI (a-b))) w:=by
  rw [x_sub_iw hx hy,wrap_i64_in _ h1 h2]
theorem x_mul_iw {a b:Int} (hx:ev E x=vI a) (hy:ev E y=vI b):(execOp (ev E) ⟨dst,.binOp .mul t x y t',ty,pos,af,g⟩).run P w = .ok (.value (vI (IntKind.i64.wrap (a*b)))) w:=by simp only [execOp,hx,hy];rfl
theorem x_mul_i {a b:Int} (hx:ev E x=vI a) (hy:ev E y=vI b) (h1 : -9223372036854775808≤a*b) (h2:a*b≤9223372036854775807):(execOp (ev E) ⟨dst,.binOp .mul t x y t',ty,pos,af,g⟩).run P w = .ok (.value (vI (a*b))) w:=by
  rw [x_mul_iw hx hy,wrap_i64_in _ h1 h2]
theorem x_quo_i {a b:Int} (hx:ev E x=vI a) (hy:ev E y=vI b) (ha:0≤a) (ha':a≤9223372036854775807) (hb:0<b):(execOp (ev E) ⟨dst,.binOp .quo t x y t',ty,pos,af,g⟩).run P w = .ok (.value (vI (a / b))) w:=by
  have h0:¬ b=0:=by omega
  have h1:a.tdiv b=a / b:=Int.tdiv_eq_ediv_of_nonneg ha
  have h2:0≤a / b:=Int.ediv_nonneg ha (by omega)
  have h3:a / b≤a:=Int.ediv_le_self b ha
  have h4:IntKind.i64.wrap (a.tdiv b)=a / b:=by rw [h1];exact wrap_i64_in _ (by omega) (by omega)
  simp only [execOp,hx,hy]
  show Sem.run P (do let v ← (do eqGuard .quo t x y (vI a) (vI b);if (IntKind.i64≠IntKind.i64) then stuck "BinOp: operands of different kinds" else Op.intDiv .quo .i64 a b);pure (Next.value v)) w=_
  simp only [Op.intDiv,if_neg h0,h4];rfl
theorem x_neg_i {a:Int} (hx:ev E x=vI a) (h1 : -9223372036854775808 ≤ -a) (h2 : -a≤9223372036854775807):(execOp (ev E) ⟨dst,.unOp .neg t x,ty,pos,af,g⟩).run P w = .ok (.value (vI (-a))) w:=by
  have h:IntKind.i64.wrap (0-a) = -a:=by rw [wrap_i64_in _ (by omega) (by omega)];omega
  simp only [execOp,hx]
  show Sem.run P (do let v ← Op.intArith .sub .i64 0 a;pure (Next.value v)) w=_
  simp only [Op.intArith,h];rfl
theorem x_not {b:Bool} (hx:ev E x=vB b):(execOp (ev E) ⟨dst,.unOp .not t x,ty,pos,af,g⟩).run P w = .ok (.value (vB (!b))) w:=by simp only [execOp,hx];rfl
theorem x_shr_i {a:Int} {k:IntKind} {m:Nat} (hx:ev E x=vI a) (hy:ev E y = .int k (m:Int)) (hm:m<64):(execOp (ev E) ⟨dst,.binOp .shr t x y t',ty,pos,af,g⟩).run P w = .ok (.value (vI (a / 2 ^ m))) w:=by
  have h1:¬ ((m:Int)<0):=by omega
  have h2:min m 64=m:=by omega
  have h3:a.fdiv (2 ^ m)=a / 2 ^ m:=Int.fdiv_eq_ediv_of_nonneg _ (Int.le_of_lt (Int.pow_pos (by omega)))
  simp only [execOp,hx,hy]
  show Sem.run P (do let v ← (do eqGuard .shr t x y (vI a) (.int k (m:Int));Op.shift .shr .i64 a k (m:Int));pure (Next.value v)) w=_
  simp only [Op.shift,if_neg h1,Int.toNat_natCast,IntKind.bits,h2,h3];rfl
theorem x_shl_i {a:Int} {k:IntKind} {m:Nat} (hx:ev E x=vI a) (hy:ev E y = .int k (m:Int)) (hm:m<64) (ha : -9223372036854775808≤a*2 ^ m) (hb:a*2 ^ m≤9223372036854775807):(execOp (ev E) ⟨dst,.binOp .shl t x y t',ty,pos,af,g⟩).run P w = .ok (.value (vI (a*2 ^ m))) w:=by
  have h1:¬ ((m:Int)<0):=by omega
  have h2:min m 64=m:=by omega
  have h3:=wrap_i64_in _ ha hb
  simp only [execOp,hx,hy]
  show Sem.run P (do let v ← (do eqGuard .shl t x y (vI a) (.int k (m:Int));Op.shift .shl .i64 a k (m:Int));pure (Next.value v)) w=_
  simp only [Op.shift,if_neg h1,Int.toNat_natCast,IntKind.bits,h2,h3];rfl
theorem wrap_u8 (n:Int):IntKind.u8.wrap n=((UInt8.ofInt n).toNat:Int):=by
  have h:IntKind.u8.wrap n=n % (2 ^ 8:Int):=by simp [IntKind.wrap,IntKind.bits,IntKind.signed]
  rw [h]
  have h0:0≤n % (2 ^ 8:Int):=Int.emod_nonneg _ (by decide)
  have h1:n % (2 ^ 8:Int)<2 ^ 8:=Int.emod_lt_of_pos _ (by decide)
  simp only [UInt8.ofInt,UInt8.toNat_ofNat']
  omega
theorem ofInt_u8_sub (a b:UInt8):UInt8.ofInt ((a.toNat:Int)-(b.toNat:Int))=a-b:=by
  apply UInt8.toNat_inj.1
  have h1:=a.toNat_lt;have h2:=b.toNat_lt
  simp only [UInt8.ofInt,UInt8.toNat_ofNat',UInt8.toNat_sub]
  omega
theorem x_sub_u8 {a b:UInt8} (hx:ev E x=vU8 a) (hy:ev E y=vU8 b):(execOp (ev E) ⟨dst,.binOp .sub t x y t',ty,pos,af,g⟩).run P w = .ok (.value (vU8 (a-b))) w:=by
  rw [← ofInt_u8_sub];show _=Result.ok (Next.value (.int .u8 _)) w;rw [← wrap_u8];simp only [execOp,hx,hy];rfl
theorem x_lss_u8 {a b:UInt8} (hx:ev E x=vU8 a) (hy:ev E y=vU8 b):(execOp (ev E) ⟨dst,.binOp .lss t x y t',ty,pos,af,g⟩).run P w = .ok (.value (vB (decide (a<b)))) w:=by
  have h:decide (a<b)=decide ((a.toNat:Int)<(b.toNat:Int)):=decide_eq_decide.2 (by rw [UInt8.lt_iff_toNat_lt];omega)
  rw [h];simp only [execOp,hx,hy];rfl
theorem x_gtr_u8 {a b:UInt8} (hx:ev E x=vU8 a) (hy:ev E y=vU8 b):(execOp (ev E) ⟨dst,.binOp .gtr t x y t',ty,pos,af,g⟩).run P w = .ok (.value (vB (decide (b<a)))) w:=by
  have h:decide (b<a)=decide ((b.toNat:Int)<(a.toNat:Int)):=decide_eq_decide.2 (by rw [UInt8.lt_iff_toNat_lt];omega)
  rw [h];simp only [execOp,hx,hy];rfl
theorem wrap_u64 (n:Int):IntKind.u64.wrap n=((UInt64.ofInt n).toNat:Int):=by
  have h:IntKind.u64.wrap n=n % (2 ^ 64:Int):=by simp [IntKind.wrap,IntKind.bits,IntKind.signed]
  rw [h]
  have h0:0≤n % (2 ^ 64:Int):=Int.emod_nonneg _ (by decide)
  have h1:n % (2 ^ 64:Int)<2 ^ 64:=Int.emod_lt_of_pos _ (by decide)
  simp only [UInt64.ofInt,UInt64.toNat_ofNat']
  omega
theorem ofInt_u64_nat (n:Nat):UInt64.ofInt (n:Int)=UInt64.ofNat n:=by
  apply UInt64.toNat_inj.1
  simp only [UInt64.ofInt,UInt64.toNat_ofNat']
  omega
theorem wrap_u64_lt (n:Nat) (h:n<2 ^ 64):IntKind.u64.wrap (n:Int)=(n:Int):=by
  rw [wrap_u64,ofInt_u64_nat,UInt64.toNat_ofNat',Nat.mod_eq_of_lt h]
theorem ofInt_u64_bv (a:UInt64):BitVec.ofInt 64 (a.toNat:Int)=a.toBitVec:=by
  rw [BitVec.ofInt_natCast];apply BitVec.eq_of_toNat_eq;simp
theorem x_or_u64 {a b:UInt64} (hx:ev E x=vU64 a) (hy:ev E y=vU64 b):(execOp (ev E) ⟨dst,.binOp .or t x y t',ty,pos,af,g⟩).run P w = .ok (.value (vU64 (a ||| b))) w:=by
  have h:IntKind.u64.wrap ((BitVec.ofInt 64 (a.toNat:Int) ||| BitVec.ofInt 64 (b.toNat:Int)).toNat:Int)=((a ||| b).toNat:Int):=by
    rw [ofInt_u64_bv,ofInt_u64_bv,wrap_u64_lt _ (BitVec.isLt _)];rfl
  simp only [execOp,hx,hy]
  show Result.ok (Next.value (.int .u64 (IntKind.u64.wrap ((BitVec.ofInt 64 (a.toNat:Int) ||| BitVec.ofInt 64 (b.toNat:Int)).toNat:Int)))) w=_
  rw [h]
theorem x_shl_u64 {a:UInt64} {k:IntKind} {m:Nat} (hx:ev E x=vU64 a) (hy:ev E y = .int k (m:Int)) (hm:m<64):(execOp (ev E) ⟨dst,.binOp .shl t x y t',ty,pos,af,g⟩).run P w = .ok (.value (vU64 (UInt64.ofBitVec (a.toBitVec <<< m)))) w:=by
  have h1:¬ ((m:Int)<0):=by omega
  have h2:min m 64=m:=by omega
  have h3:IntKind.u64.wrap ((a.toNat:Int)*2 ^ m)=((UInt64.ofBitVec (a.toBitVec <<< m)).toNat:Int):=by
    have hc:((a.toNat:Int)*2 ^ m)=((a.toNat*2 ^ m:Nat):Int):=by simp
    rw [hc,wrap_u64,ofInt_u64_nat,UInt64.toNat_ofNat']
    show _=((a.toBitVec <<< m).toNat:Int)
    rw [BitVec.toNat_shiftLeft,Nat.shiftLeft_eq]
    rfl
  simp only [execOp,hx,hy]
  show Sem.run P (do let v ← (do eqGuard .shl t x y (vU64 a) (.int k (m:Int));Op.shift .shl .u64 (a.toNat:Int) k (m:Int));pure (Next.value v)) w=_
  simp only [Op.shift,if_neg h1,Int.toNat_natCast,IntKind.bits,h2,h3];rfl
theorem x_gtr_u64 {a b:UInt64} (hx:ev E x=vU64 a) (hy:ev E y=vU64 b):(execOp (ev E) ⟨dst,.binOp .gtr t x y t',ty,pos,af,g⟩).run P w = .ok (.value (vB (decide (b<a)))) w:=by
  have h:decide (b<a)=decide ((b.toNat:Int)<(a.toNat:Int)):=decide_eq_decide.2 (by rw [UInt64.lt_iff_toNat_lt];omega)
  rw [h];simp only [execOp,hx,hy];rfl
theorem x_conv_i64_u8 {a:Int} {q:TypeDesc} (hx:ev E x=vI a) (hs:P.underlying t=some q) (hd:P.underlying u=some (.int .u8)):(execOp (ev E) ⟨dst,.convert t u x,ty,pos,af,g⟩).run P w = .ok (.value (vU8 (UInt8.ofInt a))) w:=by
  have hr:(convert t u (vI a)).run P w = .ok (.int .u8 (IntKind.u8.wrap a)) w:=by
    simp [convert,run_underlying hs,run_underlying hd,Conv.intToInt]
  simp only [execOp,hx]
  show (Sem.run P (do let v ← convert t u (vI a);pure (Next.value v)) w)=_
  rw [Sem.run_bind,hr]
  simp only [Result.andThen_ok]
  rw [wrap_u8];rfl
theorem x_conv_u8_i64 {a:UInt8} {q:TypeDesc} (hx:ev E x=vU8 a) (hs:P.underlying t=some q) (hd:P.underlying u=some (.int .i64)):(execOp (ev E) ⟨dst,.convert t u x,ty,pos,af,g⟩).run P w = .ok (.value (vI (a.toNat:Int))) w:=by
  have hr:(convert t u (vU8 a)).run P w = .ok (.int .i64 (IntKind.i64.wrap (a.toNat:Int))) w:=by
    simp [convert,run_underlying hs,run_underlying hd,Conv.intToInt]
  simp only [execOp,hx]
  show (Sem.run P (do let v ← convert t u (vU8 a);pure (Next.value v)) w)=_
  rw [Sem.run_bind,hr]
  simp only [Result.andThen_ok]
  have:=a.toNat_lt
  rw [wrap_i64_in _ (by omega) (by omega)];rfl
theorem x_conv_u8_u64 {a:UInt8} {q:TypeDesc} (hx:ev E x=vU8 a) (hs:P.underlying t=some q) (hd:P.underlying u=some (.int .u64)):(execOp (ev E) ⟨dst,.convert t u x,ty,pos,af,g⟩).run P w = .ok (.value (vU64 a.toUInt64)) w:=by
  have hr:(convert t u (vU8 a)).run P w = .ok (.int .u64 (IntKind.u64.wrap (a.toNat:Int))) w:=by
    simp [convert,run_underlying hs,run_underlying hd,Conv.intToInt]
  simp only [execOp,hx]
  show (Sem.run P (do let v ← convert t u (vU8 a);pure (Next.value v)) w)=_
  rw [Sem.run_bind,hr]
  simp only [Result.andThen_ok]
  have e:UInt64.ofNat a.toNat=a.toUInt64:=by apply UInt64.toNat_inj.1;rw [UInt64.toNat_ofNat'];simp
  rw [wrap_u64,ofInt_u64_nat,e];rfl
theorem x_conv_u64_i64 {a:UInt64} {q:TypeDesc} (hx:ev E x=vU64 a) (hs:P.underlying t=some q) (hd:P.underlying u=some (.int .i64)) (h2:a.toNat≤9223372036854775807):(execOp (ev E) ⟨dst,.convert t u x,ty,pos,af,g⟩).run P w = .ok (.value (vI (a.toNat:Int))) w:=by
  have hr:(convert t u (vU64 a)).run P w = .ok (.int .i64 (IntKind.i64.wrap (a.toNat:Int))) w:=by
    simp [convert,run_underlying hs,run_underlying hd,Conv.intToInt]
  simp only [execOp,hx]
  show (Sem.run P (do let v ← convert t u (vU64 a);pure (Next.value v)) w)=_
  rw [Sem.run_bind,hr]
  simp only [Result.andThen_ok]
  rw [wrap_i64_in _ (by omega) (by omega)];rfl
theorem x_len_s {l:Bytes} (hx:ev E x=vS l) (ht:P.underlying t=some .string):(execOp (ev E) ⟨dst,.call ⟨.builtin .len,#[x],#[t]⟩,ty,pos,af,g⟩).run P w = .ok (.value (vI (l.length:Int))) w:=by
  have hr:(Builtin.len_ #[t] ty #[vS l]).run P w = .ok (vI (l.length:Int)) w:=by
    have hsz:(⟨l.toArray⟩:ByteArray).size=l.length:=by simp [ByteArray.size]
    simp [Builtin.len_,run_underlying ht,goInt,vS,hsz]
  simp [execOp,resolve,invoke,builtin,hx,hr]
theorem x_idx_s {l:Bytes} {k:Nat} (hx:ev E x=vS l) (hy:ev E y=vI (k:Int)) (ht:P.underlying t=some .string) (hk:k<l.length):(execOp (ev E) ⟨dst,.index t x y,ty,pos,af,g⟩).run P w = .ok (.value (vU8 (l.getD k 0))) w:=by
  have h1:(⟨l.toArray⟩:ByteArray)[k]? = some (l.getD k 0):=by
    have hs:k<(⟨l.toArray⟩:ByteArray).size:=by simpa [ByteArray.size] using hk
    rw [getElem?_pos (⟨l.toArray⟩:ByteArray) k hs]
    simp only [List.getD_eq_getElem?_getD,List.getElem?_eq_getElem hk,Option.getD_some]
    rfl
  have hr:(Instr.index t (vS l) (vI (k:Int))).run P w = .ok (vU8 (l.getD k 0)) w:=by
    have h0:(0:Int)≤(k:Int):=by omega
    simp only [Instr.index,asIntOf,run_underlying ht,Sem.run_bind,Sem.run_pure,Result.andThen_ok,if_pos h0,Int.toNat_natCast,h1]
  simp only [execOp,hx,hy]
  show Sem.run P (do let v ← Instr.index t (vS l) (vI (k:Int));pure (Next.value v)) w=_
  rw [Sem.run_bind,hr];rfl
def sub (l:Bytes) (lo hi:Nat):Bytes:=(l.take hi).drop lo
theorem sub_length (l:Bytes) (lo hi:Nat) (h:hi≤l.length):(sub l lo hi).length=hi-lo:=by simp [sub,List.length_take];omega
theorem extract_vS (l:Bytes) (lo hi:Nat):(⟨l.toArray⟩:ByteArray).extract lo hi=⟨(sub l lo hi).toArray⟩:=by
  apply ByteArray.ext
  rw [ByteArray.data_extract]
  apply Array.toList_inj.1
  simp [sub,List.extract,List.take_drop]
  rcases Nat.le_total lo hi with h | h
  · rw [Nat.add_sub_cancel' h]
  · have:lo+(hi-lo)=lo:=by omega
    rw [this]
    rw [List.drop_eq_nil_of_le (by simp;omega),List.drop_eq_nil_of_le (by simp;omega)]
theorem run_sub_s {l:Bytes} {lo hi:Nat} {vlo vhi:Option Value} (ht:P.underlying t=some .string) (hlo:vlo=some (vI (lo:Int))∨(vlo=none∧lo=0)) (hhi:vhi=some (vI (hi:Int))∨(vhi=none∧hi=l.length))
    (h1:lo≤hi) (h2:hi≤l.length):(Instr.slice t (vS l) vlo vhi none).run P w = .ok (vS (sub l lo hi)) w:=by
  have hsz:(⟨l.toArray⟩:ByteArray).size=l.length:=by simp [ByteArray.size]
  have e1:(0:Int)≤(hi:Int)∧(hi:Int)≤((l.length:Nat):Int):=by omega
  have e2:(0:Int)≤(lo:Int)∧(lo:Int)≤((hi:Nat):Int):=by omega
  rcases hlo with rfl | ⟨rfl,rfl⟩ <;> rcases hhi with rfl | ⟨rfl,rfl⟩
  · simp only [Instr.slice,Instr.sliceBounds,Instr.sliceBound,asIntOf,run_underlying ht,Sem.run_bind,Sem.run_pure,Result.andThen_ok,hsz,Option.isSome_none,Bool.false_eq_true,if_false,if_pos e1,if_pos e2,Int.toNat_natCast,extract_vS]
  · simp only [Instr.slice,Instr.sliceBounds,Instr.sliceBound,asIntOf,run_underlying ht,Sem.run_bind,Sem.run_pure,Result.andThen_ok,hsz,Option.isSome_none,Bool.false_eq_true,if_false,if_pos e2,Int.toNat_natCast,extract_vS]
  · simp only [Instr.slice,Instr.sliceBounds,Instr.sliceBound,asIntOf,run_underlying ht,Sem.run_bind,Sem.run_pure,Result.andThen_ok,hsz,Option.isSome_none,Bool.false_eq_true,if_false,if_pos e1,Int.toNat_natCast,extract_vS]
  · simp only [Instr.slice,Instr.sliceBounds,run_underlying ht,Sem.run_bind,Sem.run_pure,Result.andThen_ok,hsz,Option.isSome_none,Bool.false_eq_true,if_false,extract_vS]
theorem x_sub_s {l:Bytes} {lo hi:Nat} {olo ohi:Option Operand} (hx:ev E x=vS l) (ht:P.underlying t=some .string) (hlo:olo.map (ev E)=some (vI (lo:Int))∨(olo.map (ev E)=none∧lo=0)) (hhi:ohi.map (ev E)=some (vI (hi:Int))∨(ohi.map (ev E)=none∧hi=l.length))
    (h1:lo≤hi) (h2:hi≤l.length):(execOp (ev E) ⟨dst,.slice t x olo ohi none,ty,pos,af,g⟩).run P w = .ok (.value (vS (sub l lo hi))) w:=by
  have hr:=run_sub_s (P:=P) (w:=w) ht hlo hhi h1 h2
  have hr2:(Instr.sliceAt t (vS l) (olo.map (ev E)) (ohi.map (ev E)) none).run P w = .ok (vS (sub l lo hi)) w:=by
    simp only [Instr.sliceAt,run_underlying ht,Sem.run_bind,Result.andThen_ok];exact hr
  simp only [execOp,hx]
  show Sem.run P (do let v ← Instr.sliceAt t (vS l) (olo.map (ev E)) (ohi.map (ev E)) none;pure (Next.value v)) w=_
  rw [Sem.run_bind,hr2];rfl
theorem append_vS (a b:Bytes):(⟨a.toArray⟩:ByteArray)++⟨b.toArray⟩=⟨(a++b).toArray⟩:=by
  apply ByteArray.ext;rw [ByteArray.data_append];simp
theorem x_cat_s {a b:Bytes} (hx:ev E x=vS a) (hy:ev E y=vS b) (h:a.length+b.length≤9223372036854775807):(execOp (ev E) ⟨dst,.binOp .add t x y t',ty,pos,af,g⟩).run P w = .ok (.value (vS (a++b))) w:=by
  have h':¬ (((⟨a.toArray⟩:ByteArray).size+(⟨b.toArray⟩:ByteArray).size:Nat):Int) > IntKind.i64.max:=by rw [i64_max];simp [ByteArray.size];omega
  have hr:(Op.stringOp .add ⟨a.toArray⟩ ⟨b.toArray⟩).run P w = .ok (vS (a++b)) w:=by
    simp only [Op.stringOp,if_neg h',append_vS];rfl
  simp only [execOp,hx,hy]
  show Sem.run P (do let v ← (Op.stringOp .add ⟨a.toArray⟩ ⟨b.toArray⟩);pure (Next.value v)) w=_
  rw [Sem.run_bind,hr];rfl
theorem x_eql_s {a b:Bytes} (hx:ev E x=vS a) (hy:ev E y=vS b):(execOp (ev E) ⟨dst,.binOp .eql t x y t',ty,pos,af,g⟩).run P w = .ok (.value (vB (decide (a=b)))) w:=by
  have hr:(Op.stringOp .eql ⟨a.toArray⟩ ⟨b.toArray⟩).run P w = .ok (vB (decide (a=b))) w:=by
    have:((⟨a.toArray⟩:ByteArray).toList == (⟨b.toArray⟩:ByteArray).toList)=decide (a=b):=by rw [ByteArray.toList_mk,ByteArray.toList_mk,Bool.eq_iff_iff];simp
    simp only [Op.stringOp,this];rfl
  simp only [execOp,hx,hy]
  show Sem.run P (do let v ← (Op.stringOp .eql ⟨a.toArray⟩ ⟨b.toArray⟩);pure (Next.value v)) w=_
  rw [Sem.run_bind,hr];rfl
theorem x_neq_s {a b:Bytes} (hx:ev E x=vS a) (hy:ev E y=vS b):(execOp (ev E) ⟨dst,.binOp .neq t x y t',ty,pos,af,g⟩).run P w = .ok (.value (vB (decide (a≠b)))) w:=by
  have hr:(Op.stringOp .neq ⟨a.toArray⟩ ⟨b.toArray⟩).run P w = .ok (vB (decide (a≠b))) w:=by
    have:(!((⟨a.toArray⟩:ByteArray).toList == (⟨b.toArray⟩:ByteArray).toList))=decide (a≠b):=by rw [ByteArray.toList_mk,ByteArray.toList_mk,Bool.eq_iff_iff];simp
    simp only [Op.stringOp,this];rfl
  simp only [execOp,hx,hy]
  show Sem.run P (do let v ← (Op.stringOp .neq ⟨a.toArray⟩ ⟨b.toArray⟩);pure (Next.value v)) w=_
  rw [Sem.run_bind,hr];rfl
theorem x_lss_s {a b:Bytes} (hx:ev E x=vS a) (hy:ev E y=vS b):(execOp (ev E) ⟨dst,.binOp .lss t x y t',ty,pos,af,g⟩).run P w = .ok (.value (vB (Op.bytesLess a b))) w:=by
  have hr:(Op.stringOp .lss ⟨a.toArray⟩ ⟨b.toArray⟩).run P w = .ok (vB (Op.bytesLess a b)) w:=by
    simp only [Op.stringOp,ByteArray.toList_mk];rfl
  simp only [execOp,hx,hy]
  show Sem.run P (do let v ← (Op.stringOp .lss ⟨a.toArray⟩ ⟨b.toArray⟩);pure (Next.value v)) w=_
  rw [Sem.run_bind,hr];rfl
theorem x_gtr_s {a b:Bytes} (hx:ev E x=vS a) (hy:ev E y=vS b):(execOp (ev E) ⟨dst,.binOp .gtr t x y t',ty,pos,af,g⟩).run P w = .ok (.value (vB ((!(Op.bytesLess a b||decide (a=b)))))) w:=by
  have hr:(Op.stringOp .gtr ⟨a.toArray⟩ ⟨b.toArray⟩).run P w = .ok (vB ((!(Op.bytesLess a b||decide (a=b))))) w:=by
    have h2:(a == b)=decide (a=b):=by rw [Bool.eq_iff_iff];simp
    simp only [Op.stringOp,ByteArray.toList_mk,h2];rfl
  simp only [execOp,hx,hy]
  show Sem.run P (do let v ← (Op.stringOp .gtr ⟨a.toArray⟩ ⟨b.toArray⟩);pure (Next.value v)) w=_
  rw [Sem.run_bind,hr];rfl
end
end Go.GV
namespace Go.GV
open Go.RowKit
structure Callable (P:Program) (f:FuncId):Prop where
  ex:∃ fn,P.funcs[f]? = some fn∧(fn.name == "runtime.NumGoroutine")=false∧fn.body.isNone=false
section
variable {E:Env} {P:Program} {w:World} {x y z:Operand} {dst:Option Nat} {t t' ty u:TypeId} {pos:String} {af:Array Edge} {g:Option (Nat × Bool)}
theorem run_callFunc_enter {f:FuncId} {args:Array Value} (h:Callable P f):(callFunc f args).run P w = .ok (.enter f args) w:=by
  obtain ⟨fn,hf,hn,hb⟩:=h.ex
  unfold callFunc
  simp only [Sem.run_bind,run_program,Result.andThen_ok,hf,hn,hb,Bool.false_eq_true,if_false]
  rfl
theorem x_call {f:FuncId} {l:List Operand} {vs:List Value} {ts:Array TypeId} (hc:Callable P f) (ha:l.map (ev E)=vs) :
    (execOp (ev E) ⟨dst,.call ⟨.value (.func f),l.toArray,ts⟩,ty,pos,af,g⟩).run P w = .ok (.enter f vs.toArray) w:=by
  subst ha
  have h:=run_callFunc_enter (P:=P) (w:=w) (args:=(l.map (ev E)).toArray) hc
  simp only [execOp,resolve,List.map_toArray,ev,Deferred.ofValue,Sem.run_bind,Sem.run_pure,Result.andThen_ok,invoke,List.append_toArray,List.append_nil]
  simpa using h
theorem x_callv {f:FuncId} {first caps:List Value} {l:List Operand} {vs:List Value} {ts:Array TypeId} (hx:ev E x = .func (.func f) first.toArray caps.toArray) (hc:Callable P f) (ha:first++l.map (ev E)++caps=vs) :
    (execOp (ev E) ⟨dst,.call ⟨.value x,l.toArray,ts⟩,ty,pos,af,g⟩).run P w = .ok (.enter f vs.toArray) w:=by
  subst ha
  have h:=run_callFunc_enter (P:=P) (w:=w) (args:=(first++l.map (ev E)++caps).toArray) hc
  simp only [execOp,resolve,List.map_toArray,hx,Deferred.ofValue,Sem.run_bind,Sem.run_pure,Result.andThen_ok,invoke,List.append_toArray]
  simpa using h
def scal (P:Program) (t:TypeId):Bool:=match P.underlying t with
  | some (.struct _) | some (.array _ _) | none=>false
  | _=>true
def aggs (P:Program) (t:TypeId):Bool:=match P.underlying t with
  | some (.struct _) | some (.array _ _)=>true
  | _=>false
def zeroIs (P:Program) (t:TypeId):Option Value:=(P.info? t).bind (·.zero)
def sizeIs (P:Program) (t:TypeId):Option Nat:=(P.info? t).map (·.size)
def bytesIs (P:Program) (t:TypeId):Option Nat:=(P.info? t).map (·.bytes)
def fieldIs (P:Program) (s:TypeId) (i:Nat):Option (Nat × TypeId):=match P.underlying s with
  | some (.struct fs)=>(fs[i]?).bind fun f=>if (sizeIs P f.type).getD 0=0 then none else some (f.offset,f.type)
  | _=>none
theorem run_isAgg_false (h:scal P t=true):(isAgg t).run P w = .ok false w:=by
  unfold scal at h
  unfold isAgg
  cases hu:P.underlying t with
  | none=>rw [hu] at h;cases h
  | some d =>
    rw [hu] at h
    simp only [Sem.run_bind,run_underlying hu,Result.andThen_ok]
    cases d <;> first | rfl | (cases h)
theorem run_isAgg_true (h:aggs P t=true):(isAgg t).run P w = .ok true w:=by
  unfold aggs at h
  unfold isAgg
  cases hu:P.underlying t with
  | none=>rw [hu] at h;cases h
  | some d =>
    rw [hu] at h
    simp only [Sem.run_bind,run_underlying hu,Result.andThen_ok]
    cases d <;> first | rfl | (cases h)
theorem run_sizeOf_is {n:Nat} (h:sizeIs P t=some n):(sizeOf t).run P w = .ok n w:=by
  unfold sizeIs at h
  cases hi:P.info? t with
  | none=>rw [hi] at h;cases h
  | some i =>
    rw [hi] at h
    simp at h
    simp [sizeOf,typeInfo,hi,h]
theorem run_zeroValue_is {z:Value} (h:zeroIs P t=some z):(zeroValue t).run P w = .ok z w:=by
  unfold zeroIs at h
  cases hi:P.info? t with
  | none=>rw [hi] at h;cases h
  | some i =>
    rw [hi] at h
    simp at h
    simp [zeroValue,typeInfo,hi,h]
theorem add_lit (b o n:Nat):(⟨b,o,none⟩:Addr).add n=⟨b,o+n,none⟩:=by
  unfold Addr.add;split <;> simp_all
def Ent.blk (b:Nat) (t:TypeId) (cs:List Value) (fz:Nat × Nat:=(0,0)):Ent:=
  ⟨some b,fun o=>o=some (.cells cs.toArray t fz)∧(fz.2≤fz.1∨cs.length≤fz.1)⟩
theorem blk_at {b:Nat} {t:TypeId} {cs:List Value} {fz:Nat × Nat} (h:(Ent.blk b t cs fz).at w):w.heap[b]? = some (.cells cs.toArray t fz)∧(fz.2≤fz.1∨cs.length≤fz.1):=by
  simpa [Ent.at,Ent.blk] using h.1
theorem blk_cell {b:Nat} {t:TypeId} {cs:List Value} {fz:Nat × Nat} (h:(Ent.blk b t cs fz).at w) {i:Nat} {v:Value} (hv:cs[i]? = some v):w.cell? ⟨b,i,none⟩=some v:=by
  obtain ⟨hb,_⟩:=blk_at h
  simp [World.cell?,hb,hv]
theorem blk_frozen {b:Nat} {t:TypeId} {cs:List Value} {fz:Nat × Nat} (h:(Ent.blk b t cs fz).at w) {i:Nat} (hi:i<cs.length):w.frozen? ⟨b,i,none⟩=false:=by
  obtain ⟨lo,hi'⟩:=fz
  obtain ⟨hb,hf⟩:=blk_at h
  simp only [World.frozen?,hb]
  rcases hf with hf | hf
  · simp only at hf
    rw [Bool.eq_false_iff];intro hc;simp at hc;omega
  · simp only at hf
    rw [Bool.eq_false_iff];intro hc;simp at hc;omega
theorem St.mem {S:List Nat} {w0 w:World} {L:List Ent} (h:St S w0 w L) {j:Nat} {e:Ent} (hj:L[j]? = some e):e.at w:=h.hold e (List.mem_of_getElem? hj)
theorem run_loadVar_scal {a:Addr} {v:Value} (hs:scal P t=true) (hc:w.cell? a=some v):(loadVar t a).run P w = .ok v w:=by
  unfold loadVar
  simp only [Sem.run_bind,run_isAgg_false hs,Result.andThen_ok,Bool.false_eq_true,if_false]
  simp [hc]
theorem run_loadVar_aggs {a:Addr} {vs:List Value} (hs:aggs P t=true) (hn:sizeIs P t=some vs.length) (hc:∀ j v,vs[j]? = some v→w.cell? (a.add j)=some v):(loadVar t a).run P w = .ok (.agg vs.toArray) w:=by
  unfold loadVar
  simp only [Sem.run_bind,run_isAgg_true hs,Result.andThen_ok,if_true,run_sizeOf_is hn]
  rw [run_loadCells_list w a vs hc]
  rfl
theorem exec_load {a:Addr} (hx:ev E x = .pointer (some a)) {v:Value} (hr:(loadVar t a).run P w = .ok v w):(execOp (ev E) ⟨dst,.load t x,ty,pos,af,g⟩).run P w = .ok (.value v) w:=by
  simp only [execOp,hx]
  show Sem.run P (do let v ← (do loadVar t (← Instr.sureAddr (.pointer (some a))));pure (Next.value v)) w=_
  simp only [Instr.sureAddr,Sem.run_bind,Sem.run_pure,Result.andThen_ok,hr]
theorem x_load {S:List Nat} {w0:World} {L:List Ent} (j:Nat) {b off:Nat} {tb:TypeId} {cs:List Value} {fz:Nat × Nat} {v:Value} (hx:ev E x = .pointer (some ⟨b,off,none⟩)) (hj:L[j]? = some (Ent.blk b tb cs fz)) (hs:scal P t=true) (hc:cs[off]? = some v) :
    ∀ w,St S w0 w L→(execOp (ev E) ⟨dst,.load t x,ty,pos,af,g⟩).run P w = .ok (.value v) w:=
  fun _ h=>exec_load hx (run_loadVar_scal hs (blk_cell (h.mem hj) hc))
theorem x_loadN {S:List Nat} {w0:World} {L:List Ent} (j:Nat) {b off:Nat} {tb:TypeId} {cs:List Value} {fz:Nat × Nat} (vs:List Value) (hx:ev E x = .pointer (some ⟨b,off,none⟩)) (hj:L[j]? = some (Ent.blk b tb cs fz)) (hs:aggs P t=true) (hn:sizeIs P t=some vs.length) (hc:(cs.drop off).take vs.length=vs) :
    ∀ w,St S w0 w L→(execOp (ev E) ⟨dst,.load t x,ty,pos,af,g⟩).run P w = .ok (.value (.agg vs.toArray)) w:=by
  intro w h
  refine exec_load hx (run_loadVar_aggs hs hn fun i v hv=>?_)
  rw [add_lit]
  refine blk_cell (h.mem hj) ?_
  rw [← hc,List.getElem?_take] at hv
  split at hv
  · simpa using hv
  · cases hv
def splice {α:Type} : List α→Nat→List α→List α
  | cs,_,[]=>cs
  | cs,k,v::vs=>splice (cs.set k v) (k+1) vs
theorem splice_length {α:Type} : ∀ (vs cs:List α) (k:Nat),(splice cs k vs).length=cs.length
  | [],_,_=>rfl
  | v::vs,cs,k=>by simp [splice,splice_length vs]
attribute [simp] splice_length
theorem splice_eq {α:Type} : ∀ (vs cs:List α) (k:Nat),k+vs.length≤cs.length→splice cs k vs=cs.take k++vs++cs.drop (k+vs.length)
  | [],cs,k,_=>by simp [splice]
  | v::vs,cs,k,h=>by
    simp only [List.length_cons] at h
    have hk:k<cs.length:=by omega
    simp only [splice]
    rw [splice_eq vs _ _ (by simp;omega)]
    rw [List.set_eq_take_append_cons_drop,if_pos hk]
    have h1:(cs.take k++v::cs.drop (k+1)).take (k+1)=cs.take k++[v]:=by
      rw [List.take_append];simp [List.length_take,Nat.min_eq_left (Nat.le_of_lt hk)];
      rw [List.take_of_length_le (by simp;omega)]
    have h2:(cs.take k++v::cs.drop (k+1)).drop (k+1+vs.length)=cs.drop (k+(v::vs).length):=by
      rw [List.drop_append]
      simp only [List.length_take,Nat.min_eq_left (Nat.le_of_lt hk),List.length_cons]
      rw [List.drop_of_length_le (by simp;omega)]
      have e:k+1+vs.length-k=vs.length+1:=by omega
      rw [e,List.drop_succ_cons,List.drop_drop]
      simp;congr 1;omega
    rw [h1,h2];simp
theorem run_storeCells_blk {b o:Nat} {fz:Nat × Nat} : ∀ (vs:List Value) (i:Nat) (cs:List Value) (w:World),w.heap[b]? = some (.cells cs.toArray t fz)→(fz.2≤fz.1∨cs.length≤fz.1) →
    o+i+vs.length≤cs.length→(∀ v∈vs,v.oneCell'=true) → ∃ w',(storeCells ⟨b,o,none⟩ vs i).run P w = .ok () w'∧Fr [b] w w'∧w'.heap[b]? = some (.cells (splice cs (o+i) vs).toArray t fz)
  | [],i,cs,w,hb,_,_,_=>⟨w,rfl,Fr.refl _ _,hb⟩
  | v::vs,i,cs,w,hb,hf,hl,h1=>by
    simp only [List.length_cons] at hl
    have hat:(Ent.blk b t cs fz).at w:=⟨by simpa [Ent.blk] using ⟨hb,hf⟩,fun c hc=>by
      simp [Ent.blk] at hc;subst hc;exact (Array.getElem?_eq_some_iff.1 hb).1⟩
    have hlt:o+i<cs.length:=by omega
    have hc:=blk_cell hat (List.getElem?_eq_getElem hlt)
    have hz:=blk_frozen hat hlt
    have hst:(store ((⟨b,o,none⟩:Addr).add i) v).run P w = .ok () (w.setCell ⟨b,o+i,none⟩ v):=by
      rw [run_store P w _ v _ (h1 v (by simp)),add_lit,hc]
      simp [hz]
    have hb':(w.setCell ⟨b,o+i,none⟩ v).heap[b]? = some (.cells (cs.set (o+i) v).toArray t fz):=by
      simp [World.setCell,Array.getElem?_modify,hb]
    obtain ⟨w',hr,hF,hB⟩:=run_storeCells_blk (o:=o) vs (i+1) (cs.set (o+i) v) _ hb' (by simpa using hf) (by simp;omega) (fun u hu=>h1 u (by simp [hu]))
    refine ⟨w',?_,?_,by simpa [splice,Nat.add_assoc] using hB⟩
    · simp only [storeCells,Sem.run_bind,hst,Result.andThen_ok,hr]
    · have h0:Fr [b] w (w.setCell ⟨b,o+i,none⟩ v):=⟨rfl,rfl,rfl,by simp,fun k _ hk=>Below.heap_setCell w _ _ k (by simpa using hk)⟩
      exact h0.trans hF
theorem run_storeVar_blk {b o:Nat} {tb:TypeId} {cs:List Value} {fz:Nat × Nat} {v:Value} (hat:(Ent.blk b tb cs fz).at w) {n:Nat} (hn:sizeIs P t=some n) (hv:v.cells.toList.length=n) (hl:o+n≤cs.length) (h1:v.cells.toList.all Value.oneCell'=true) :
    ∃ w',(storeVar t ⟨b,o,none⟩ v).run P w = .ok () w'∧Fr [b] w w'∧(Ent.blk b tb (splice cs o v.cells.toList) fz).prop w'.heap[b]?:=by
  obtain ⟨hb,hf⟩:=blk_at hat
  obtain ⟨w',hr,hF,hB⟩:=run_storeCells_blk (P:=P) (o:=o) v.cells.toList 0 cs w hb hf (by omega) (fun u hu=>List.all_eq_true.1 h1 u hu)
  refine ⟨w',?_,hF,by simpa using hB,by rw [splice_length];exact hf⟩
  unfold storeVar
  have hsz:v.cells.size=n:=by simpa using hv
  simp only [Sem.run_bind,run_sizeOf_is hn,Result.andThen_ok,hsz,ne_eq,not_true_eq_false,if_false]
  exact hr
theorem set_perm {α:Type} : ∀ (L:List α) (j:Nat) (e:α),j<L.length→(e::L.eraseIdx j).Perm (L.set j e)
  | x::L,0,e,_=>.refl _
  | x::L,j+1,e,h=>(List.Perm.swap x e _).trans ((set_perm L j e (by simpa using h)).cons x)
theorem St.writeAt {S:List Nat} {w0 w w':World} {L:List Ent} {j:Nat} {e e':Ent} (h:St S w0 w L) (hj:L[j]? = some e) (b:Nat) (ho:e.own=some b) (ho':e'.own=some b)
    (hf:Fr [b] w w') (hp:e'.prop w'.heap[b]?):St S w0 w' (L.set j e'):=
  ((h.front j e hj).write b ho ho' hf hp).perm (set_perm L j e' (List.getElem?_eq_some_iff.1 hj).1)
theorem O_store {S:List Nat} {w0:World} {L:List Ent} {K:Value→List Ent→Prop} (j:Nat) {b off n:Nat} {tb:TypeId} {cs:List Value} {fz:Nat × Nat} {v:Value} (cs':List Value) (L':List Ent)
    (hx:ev E x = .pointer (some ⟨b,off,none⟩)) (hy:ev E y=v) (hj:L[j]? = some (Ent.blk b tb cs fz)) (hn:sizeIs P t=some n) (hv:v.cells.toList.length=n) (hl:off+n≤cs.length) (h1:v.cells.toList.all Value.oneCell'=true)
    (hcs:splice cs off v.cells.toList=cs') (hL:L.set j (Ent.blk b tb cs' fz)=L') (k:K undef L'):OpJ P S w0 E L ⟨dst,.store t x y,ty,pos,af,g⟩ K:=by
  intro w hS
  subst hcs;subst hL
  obtain ⟨w',hr,hF,hB⟩:=run_storeVar_blk (P:=P) (t:=t) (hS.mem hj) hn hv hl h1
  refine ⟨undef,_,w',.inr ⟨?_,rfl⟩,hS.writeAt hj b rfl rfl hF hB,k⟩
  simp only [execOp,hx,hy]
  show Sem.run P (do (do storeVar t (← Instr.sureAddr (.pointer (some ⟨b,off,none⟩))) v);pure Next.skip) w=_
  simp only [Instr.sureAddr,Sem.run_bind,Sem.run_pure,Result.andThen_ok,hr]
theorem O_storeS {S:List Nat} {w0:World} {L:List Ent} {K:Value→List Ent→Prop} (j:Nat) {b off n:Nat} {tb:TypeId} {cs:List Value} {fz:Nat × Nat} {vs:List Value} (cs':List Value) (L':List Ent)
    (hx:ev E x = .pointer (some ⟨b,off,none⟩)) (hy:ev E y = .agg vs.toArray) (hj:L[j]? = some (Ent.blk b tb cs fz)) (hn:sizeIs P t=some n) (hv:vs.length=n) (hl:off+n≤cs.length) (h1:vs.all Value.oneCell'=true)
    (hcs:cs.take off++(vs++cs.drop (off+n))=cs') (hL:L.set j (Ent.blk b tb cs' fz)=L') (k:K undef L'):OpJ P S w0 E L ⟨dst,.store t x y,ty,pos,af,g⟩ K:=
  O_store j cs' L' hx hy hj hn (by simpa [Value.cells] using hv) hl (by simpa [Value.cells] using h1) (by
    subst hv
    rw [← hcs,splice_eq _ _ _ (by simpa [Value.cells] using hl)];simp [Value.cells]) hL k
theorem St.alloc_blk {S:List Nat} {w0 w:World} {L:List Ent} (h:St S w0 w L) (tb:TypeId) (cs:List Value):St S w0 (w.alloc (.cells cs.toArray tb)) (Ent.blk w.heap.size tb cs::L):=
  h.alloc _ _ rfl ⟨rfl,.inl (Nat.le_refl _)⟩
theorem O_alloc {S:List Nat} {w0:World} {L:List Ent} {K:Value→List Ent→Prop} {z:Value} {cs:List Value} (hz:zeroIs P t=some z) (hcs:z.cells.toList=cs)
    (k:∀ b,K (.pointer (some ⟨b,0,none⟩)) (Ent.blk b t cs::L)):OpJ P S w0 E L ⟨dst,.alloc t,ty,pos,af,g⟩ K:=by
  intro w hS
  subst hcs
  refine ⟨_,_,_,.inl ?_,hS.alloc_blk t z.cells.toList,k w.heap.size⟩
  have hr:(Instr.alloc t true (.tuple #[])).run P w = .ok (.pointer (some ⟨w.heap.size,0,none⟩)) (w.alloc (.cells z.cells.toList.toArray t)):=by
    simp only [Instr.alloc,Sem.run_bind,run_zeroValue_is hz,Result.andThen_ok,newVar,newRow]
    simp [newObj,Sem.run]
  simp only [execOp]
  show Sem.run P (do let v ← Instr.alloc t true (.tuple #[]);pure (Next.value v)) w=_
  rw [Sem.run_bind,hr];rfl
theorem O_box {S:List Nat} {w0:World} {L:List Ent} {K:Value→List Ent→Prop} {v:Value} {cs:List Value} (hx:ev E x=v) (hcs:v.cells.toList=cs)
    (k:∀ b,K (.pointer (some ⟨b,0,none⟩)) (Ent.blk b t cs::L)):OpJ P S w0 E L ⟨dst,.box t x,ty,pos,af,g⟩ K:=by
  intro w hS
  subst hcs
  refine ⟨_,_,_,.inl ?_,hS.alloc_blk t v.cells.toList,k w.heap.size⟩
  have hr:(Instr.box t v).run P w = .ok (.pointer (some ⟨w.heap.size,0,none⟩)) (w.alloc (.cells v.cells.toList.toArray t)):=by
    simp only [Instr.box,newVar,newRow]
    simp [newObj,Sem.run]
  simp only [execOp,hx]
  show Sem.run P (do let v ← Instr.box t v;pure (Next.value v)) w=_
  rw [Sem.run_bind,hr];rfl
theorem run_fieldPlace {s:TypeId} {i o:Nat} {ft:TypeId} {a:Addr} (h:fieldIs P s i=some (o,ft)):(Instr.fieldAt s (.pointer (some a)) i).run P w = .ok (.pointer (some (a.add o))) w:=by
  unfold fieldIs at h
  cases hu:P.underlying s with
  | none=>rw [hu] at h;cases h
  | some d =>
    rw [hu] at h
    cases d with
    | struct fs =>
      simp only at h
      cases hf:fs[i]? with
      | none=>rw [hf] at h;cases h
      | some f =>
        rw [hf] at h
        simp only [Option.bind_some] at h
        split at h
        · cases h
        · rename_i hz
          simp at h
          obtain ⟨h1,h2⟩:=h
          subst h1;subst h2
          cases hsz:sizeIs P f.type with
          | none=>rw [hsz] at hz;simp at hz
          | some n =>
            rw [hsz] at hz
            simp at hz
            simp only [Instr.fieldAt,Sem.run_bind,run_underlying hu,Result.andThen_ok,hf,Instr.sureAddr,Sem.run_pure,fieldPlace,run_sizeOf_is hsz,if_neg hz]
    | _=>cases h
theorem x_fieldAddr {s:TypeId} {i o:Nat} {ft:TypeId} {a b:Addr} (h:fieldIs P s i=some (o,ft)) (hx:ev E x = .pointer (some a)) (hb:a.add o=b) :
    (execOp (ev E) ⟨dst,.fieldAddr s x i,ty,pos,af,g⟩).run P w = .ok (.value (.pointer (some b))) w:=by
  subst hb
  simp only [execOp,hx]
  show Sem.run P (do let v ← Instr.fieldAt s (.pointer (some a)) i;pure (Next.value v)) w=_
  rw [Sem.run_bind,run_fieldPlace h];rfl
theorem run_part_scal {cs:Array Value} {o:Nat} {v:Value} (hs:scal P t=true) (hv:cs[o]? = some v):(part t cs o).run P w = .ok v w:=by
  unfold part
  simp only [Sem.run_bind,run_isAgg_false hs,Result.andThen_ok,Bool.false_eq_true,if_false,hv]
  rfl
theorem run_part_aggs {cs:Array Value} {o n:Nat} (hs:aggs P t=true) (hn:sizeIs P t=some n):(part t cs o).run P w = .ok (.agg (cs.extract o (o+n))) w:=by
  unfold part
  simp only [Sem.run_bind,run_isAgg_true hs,Result.andThen_ok,if_true,run_sizeOf_is hn]
  rfl
theorem run_field {s ft:TypeId} {i o:Nat} {cs:Array Value} {v:Value} (h:fieldIs P s i=some (o,ft)) (hp:(part ft cs o).run P w = .ok v w):(Instr.field s (.agg cs) i).run P w = .ok v w:=by
  unfold fieldIs at h
  cases hu:P.underlying s with
  | none=>rw [hu] at h;cases h
  | some d =>
    rw [hu] at h
    cases d with
    | struct fs =>
      simp only at h
      cases hf:fs[i]? with
      | none=>rw [hf] at h;cases h
      | some f =>
        rw [hf] at h
        simp only [Option.bind_some] at h
        split at h
        · cases h
        · simp at h
          obtain ⟨h1,h2⟩:=h
          subst h1;subst h2
          simp only [Instr.field,Sem.run_bind,run_underlying hu,Result.andThen_ok,hf,asAgg,Sem.run_pure,hp]
    | _=>cases h
theorem x_fieldN {s ft:TypeId} {i o n:Nat} {cs vs:List Value} (h:fieldIs P s i=some (o,ft)) (hx:ev E x = .agg cs.toArray) (hs:aggs P ft=true) (hn:sizeIs P ft=some n) (hv:(cs.drop o).take n=vs) :
    (execOp (ev E) ⟨dst,.field s x i,ty,pos,af,g⟩).run P w = .ok (.value (.agg vs.toArray)) w:=by
  subst hv
  simp only [execOp,hx]
  show Sem.run P (do let v ← Instr.field s (.agg cs.toArray) i;pure (Next.value v)) w=_
  rw [Sem.run_bind,run_field h (run_part_aggs hs hn)]
  simp [List.extract]
theorem run_indexAt_arr {len n k:Nat} {kd:IntKind} {e:TypeId} {a:Addr} (ht:P.underlying t=some (.array len e)) (hn:sizeIs P e=some n) (hk:k<len) :
    (Instr.indexAt t (.pointer (some a)) (.int kd (k:Int))).run P w = .ok (.pointer (some (a.add (k*n)))) w:=by
  have h1:(0:Int)≤(k:Int)∧(k:Int)<(len:Int):=by omega
  simp only [Instr.indexAt,asIntOf,Sem.run_bind,Sem.run_pure,Result.andThen_ok,run_underlying ht,Instr.sureAddr,if_pos h1,run_sizeOf_is hn,Int.toNat_natCast]
theorem x_indexAddr_arr {len n k:Nat} {kd:IntKind} {e:TypeId} {a b:Addr} (ht:P.underlying t=some (.array len e)) (hn:sizeIs P e=some n) (hx:ev E x = .pointer (some a)) (hy:ev E y = .int kd (k:Int)) (hk:k<len) (hb:a.add (k*n)=b) :
    (execOp (ev E) ⟨dst,.indexAddr t x y,ty,pos,af,g⟩).run P w = .ok (.value (.pointer (some b))) w:=by
  subst hb
  simp only [execOp,hx,hy]
  show Sem.run P (do let v ← Instr.indexAt t (.pointer (some a)) (.int kd (k:Int));pure (Next.value v)) w=_
  rw [Sem.run_bind,run_indexAt_arr ht hn hk];rfl
theorem run_indexAt_sl {len cap n k:Nat} {kd:IntKind} {e:TypeId} {a:Addr} (ht:P.underlying t=some (.slice e)) (hn:sizeIs P e=some n) (hk:k<len) :
    (Instr.indexAt t (.slice (some a) len cap) (.int kd (k:Int))).run P w = .ok (.pointer (some (a.add (k*n)))) w:=by
  have h1:(0:Int)≤(k:Int)∧(k:Int)<(len:Int):=by omega
  simp only [Instr.indexAt,asIntOf,Sem.run_bind,Sem.run_pure,Result.andThen_ok,run_underlying ht,if_pos h1,run_sizeOf_is hn,Int.toNat_natCast]
theorem x_indexAddr_sl {len cap n k:Nat} {kd:IntKind} {e:TypeId} {a b:Addr} (ht:P.underlying t=some (.slice e)) (hn:sizeIs P e=some n) (hx:ev E x = .slice (some a) len cap) (hy:ev E y = .int kd (k:Int)) (hk:k<len) (hb:a.add (k*n)=b) :
    (execOp (ev E) ⟨dst,.indexAddr t x y,ty,pos,af,g⟩).run P w = .ok (.value (.pointer (some b))) w:=by
  subst hb
  simp only [execOp,hx,hy]
  show Sem.run P (do let v ← Instr.indexAt t (.slice (some a) len cap) (.int kd (k:Int));pure (Next.value v)) w=_
  rw [Sem.run_bind,run_indexAt_sl ht hn hk];rfl
theorem x_len_sl {e:TypeId} {A:Option Addr} {n c:Nat} (ht:P.underlying t=some (.slice e)) (hx:ev E x = .slice A n c):(execOp (ev E) ⟨dst,.call ⟨.builtin .len,#[x],#[t]⟩,ty,pos,af,g⟩).run P w = .ok (.value (vI (n:Int))) w:=by
  have hr:(Builtin.len_ #[t] ty #[.slice A n c]).run P w = .ok (vI (n:Int)) w:=by simp [Builtin.len_,run_underlying ht,goInt]
  simp [execOp,resolve,invoke,builtin,hx,hr]
theorem x_nilCheck {a:Addr} (hx:ev E x = .pointer (some a)):(execOp (ev E) ⟨dst,.nilCheck x,ty,pos,af,g⟩).run P w = .ok (.value (.pointer (some a))) w:=by
  simp only [execOp,hx];rfl
theorem x_build {s:TypeId} {ps:List (Nat × Operand)} {v:Value} (hr:(Instr.build s (ps.map fun p=>(p.1,ev E p.2)).toArray).run P w = .ok v w):(execOp (ev E) ⟨dst,.build s ps.toArray,ty,pos,af,g⟩).run P w = .ok (.value v) w:=by
  simp only [execOp,List.map_toArray]
  show Sem.run P (do let v ← Instr.build s (ps.map fun p=>(p.1,ev E p.2)).toArray;pure (Next.value v)) w=_
  rw [Sem.run_bind,hr];rfl
theorem O_buildSlice {S:List Nat} {w0:World} {L:List Ent} {K:Value→List Ent→Prop} {s e:TypeId} {len n:Nat} {ps:List (Nat × Operand)} {z:Value} {cs:List Value} (ht:P.underlying s=some (.slice e)) (hn:sizeIs P e=some n) (hz:zeroIs P e=some z)
    (hlen:len*n≤16777216) (hpos:0<len*n) (hf:Instr.fill (fun i=>some (i*n,n)) ((Array.range (len*n)).map (z.cells[· % z.cells.size]!)) (ps.map fun p=>(p.1,ev E p.2))=some cs.toArray)
    (k:∀ b,K (.slice (some ⟨b,0,none⟩) len len) (Ent.blk b e cs::L)):OpJ P S w0 E L ⟨dst,.buildSlice s len ps.toArray,ty,pos,af,g⟩ K:=by
  intro w hS
  refine ⟨_,_,_,.inl ?_,hS.alloc_blk e cs,k w.heap.size⟩
  have h1:¬ len*n > 2 ^ 24:=by omega
  have h2:¬ len*n=0:=by omega
  have hr:(Instr.buildSlice s len (ps.map fun p=>(p.1,ev E p.2)).toArray).run P w = .ok (.slice (some ⟨w.heap.size,0,none⟩) len len) (w.alloc (.cells cs.toArray e)):=by
    simp only [Instr.buildSlice,Sem.run_bind,run_underlying ht,Result.andThen_ok,run_sizeOf_is hn,if_neg h1,if_neg h2,run_zeroValue_is hz,Sem.run_pure,hf,newRow]
    simp [newObj,Sem.run]
  simp only [execOp,List.map_toArray]
  show Sem.run P (do let v ← Instr.buildSlice s len (ps.map fun p=>(p.1,ev E p.2)).toArray;pure (Next.value v)) w=_
  rw [Sem.run_bind,hr];rfl
theorem O_buildSlice0 {S:List Nat} {w0:World} {L:List Ent} {K:Value→List Ent→Prop} {s e:TypeId} {n:Nat} (ht:P.underlying s=some (.slice e)) (hn:sizeIs P e=some n)
    (k:∀ b,K (.slice (some ⟨b,0,none⟩) 0 0) (Ent.blk b e []::L)):OpJ P S w0 E L ⟨dst,.buildSlice s 0 #[],ty,pos,af,g⟩ K:=by
  intro w hS
  refine ⟨_,_,_,.inl ?_,hS.alloc_blk e [],k w.heap.size⟩
  have hr:(Instr.buildSlice s 0 #[]).run P w = .ok (.slice (some ⟨w.heap.size,0,none⟩) 0 0) (w.alloc (.cells (#[]:Array Value) e)):=by
    simp only [Instr.buildSlice,Sem.run_bind,run_underlying ht,Result.andThen_ok,run_sizeOf_is hn,Nat.zero_mul]
    simp [newObj,Sem.run,Instr.fill,newRow,Array.range_zero']
  have he:(#[]:Array (Nat × Operand)).map (fun p=>(p.1,ev E p.2)) = #[]:=Array.map_empty
  simp only [execOp,he]
  show Sem.run P (do let v ← Instr.buildSlice s 0 #[];pure (Next.value v)) w=_
  rw [Sem.run_bind,hr];rfl
theorem run_bytesS {a:Addr} {n c:Nat} {l:Bytes} (hn:n=l.length) (hc:∀ (j:Nat) (v:Value),(l.map vU8)[j]? = some v→w.cell? (a.add j)=some v):(Conv.bytesToString (.slice (some a) n c)).run P w = .ok (vS l) w:=by
  subst hn
  have h1:=run_loadCells_list (P:=P) w a (l.map vU8) hc
  have e1:l.map vU8=(l.map fun b=>(b.toNat:Int)).map (Value.int .u8):=by simp
  rw [e1] at h1
  simp only [List.length_map] at h1
  rw [Go.run_bytesToString w a l.length c _ h1]
  congr 2
  have key:∀ (l:Bytes) (acc:ByteArray),((l.map fun b=>(b.toNat:Int)).foldl (fun r n=>r.push (UInt8.ofNat n.toNat)) acc)=acc++⟨l.toArray⟩:=by
    intro l
    induction l with
    | nil=>intro acc;apply ByteArray.ext;simp [ByteArray.data_append]
    | cons b l ih =>
      intro acc
      simp only [List.map_cons,List.foldl_cons,ih]
      apply ByteArray.ext
      simp [ByteArray.data_append]
  rw [key]
  apply ByteArray.ext;simp
end
end Go.GV
namespace Go.GV
theorem bnot_true {b:Bool} (h:(!b)=true):b=false:=by simpa using h
theorem bnot_false {b:Bool} (h:(!b)=false):b=true:=by simpa using h
theorem band_true {a b:Bool} (h:(a&&b)=true):a=true∧b=true:=by simpa using h
theorem bor_false {a b:Bool} (h:(a||b)=false):a=false∧b=false:=by simpa using h
section
variable {E:Env} {P:Program} {w:World} {x y z:Operand} {dst:Option Nat} {t t' ty u:TypeId} {pos:String} {af:Array Edge} {g:Option (Nat × Bool)}
theorem x_add_n {a b:Nat} (hx:ev E x=vI (a:Int)) (hy:ev E y=vI (b:Int)) (h:a+b≤9223372036854775807):(execOp (ev E) ⟨dst,.binOp .add t x y t',ty,pos,af,g⟩).run P w = .ok (.value (vI ((a+b:Nat):Int))) w:=by
  rw [x_add_i hx hy (by omega) (by omega)];congr
theorem x_mul_n {a b:Nat} (hx:ev E x=vI (a:Int)) (hy:ev E y=vI (b:Int)) (h:a*b≤9223372036854775807):(execOp (ev E) ⟨dst,.binOp .mul t x y t',ty,pos,af,g⟩).run P w = .ok (.value (vI ((a*b:Nat):Int))) w:=by
  have e:((a*b:Nat):Int)=(a:Int)*(b:Int):=by simp
  rw [x_mul_i hx hy (by rw [← e];omega) (by rw [← e];omega),e]
theorem x_pick_t {b:Bool} {v:Value} (hz:ev E z=vB b) (hb:b=true) (hx:ev E x=v):(execOp (ev E) ⟨dst,.pick z x y,ty,pos,af,g⟩).run P w = .ok (.value v) w:=by
  subst hb;subst hx;simp only [execOp,hz];rfl
theorem x_pick_f {b:Bool} {v:Value} (hz:ev E z=vB b) (hb:b=false) (hy:ev E y=v):(execOp (ev E) ⟨dst,.pick z x y,ty,pos,af,g⟩).run P w = .ok (.value v) w:=by
  subst hb;subst hy;simp only [execOp,hz];rfl
theorem x_str_blk {S:List Nat} {w0:World} {L:List Ent} (j:Nat) {b off n c:Nat} {tb e:TypeId} {cs:List Value} {fz:Nat × Nat} {l:Bytes} (hx:ev E x = .slice (some ⟨b,off,none⟩) n c)
    (hs:P.underlying t=some (.slice e)) (he:P.underlying e=some (.int .u8)) (hd:P.underlying u=some .string) (hj:L[j]? = some (Ent.blk b tb cs fz)) (hn:n=l.length) (hc:(cs.drop off).take n=l.map vU8) :
    ∀ w,St S w0 w L→(execOp (ev E) ⟨dst,.convert t u x,ty,pos,af,g⟩).run P w = .ok (.value (vS l)) w:=by
  intro w h
  have hb:(Conv.bytesToString (.slice (some ⟨b,off,none⟩) n c)).run P w = .ok (vS l) w:=by
    refine run_bytesS hn fun i v hv=>?_
    rw [add_lit]
    refine blk_cell (h.mem hj) ?_
    rw [← hc,List.getElem?_take] at hv
    split at hv
    · simpa using hv
    · cases hv
  have hr:(convert t u (.slice (some ⟨b,off,none⟩) n c)).run P w = .ok (vS l) w:=by rw [run_convert_bytes_string w t u e _ n c hs he hd,hb]
  simp only [execOp,hx]
  show (Sem.run P (do let v ← convert t u (.slice (some ⟨b,off,none⟩) n c);pure (Next.value v)) w)=_
  rw [Sem.run_bind,hr];rfl
theorem load_blk {S:List Nat} {w0:World} {L:List Ent} (j:Nat) {b off:Nat} {tb:TypeId} {cs:List Value} {fz:Nat × Nat} {v:Value} (h:St S w0 w L) (hj:L[j]? = some (Ent.blk b tb cs fz)) (hs:scal P t=true) (hc:cs[off]? = some v):(loadVar t ⟨b,off,none⟩).run P w = .ok v w:=
  run_loadVar_scal hs (blk_cell (h.mem hj) hc)
theorem load_blkN {S:List Nat} {w0:World} {L:List Ent} (j:Nat) {b off:Nat} {tb:TypeId} {cs:List Value} {fz:Nat × Nat} (vs:List Value) (h:St S w0 w L) (hj:L[j]? = some (Ent.blk b tb cs fz)) (hs:aggs P t=true) (hn:sizeIs P t=some vs.length) (hc:(cs.drop off).take vs.length=vs):(loadVar t ⟨b,off,none⟩).run P w = .ok (.agg vs.toArray) w:=by
  refine run_loadVar_aggs hs hn fun i v hv=>?_
  rw [add_lit]
  refine blk_cell (h.mem hj) ?_
  rw [← hc,List.getElem?_take] at hv
  split at hv
  · simpa using hv
  · cases hv
theorem x_min_n {a b:Nat} {ts:Array TypeId} (hx:ev E x=vI (a:Int)) (hy:ev E y=vI (b:Int)):(execOp (ev E) ⟨dst,.call ⟨.builtin .min,#[x,y],ts⟩,ty,pos,af,g⟩).run P w = .ok (.value (vI ((min a b:Nat):Int))) w:=by
  have hr:(Builtin.min_ ts ty #[vI (a:Int),vI (b:Int)]).run P w = .ok (vI ((min a b:Nat):Int)) w:=by
    have e:(if (b:Int)<(a:Int) then (b:Int) else (a:Int))=((min a b:Nat):Int):=by split <;> omega
    show Result.ok (Value.int .i64 (if (b:Int)<(a:Int) then (b:Int) else (a:Int))) w=_
    rw [e]
  simp [execOp,resolve,invoke,builtin,hx,hy,hr]
end
section
variable {P:Program} {n:Dim} {S:List Nat} {w0:World} {Q:Post} {E:Env} {L:List Ent} {ops:Array Oper} {Lg Lu:List Ent} {us:List Nat} {fuel:Nat} {listed:Array Bool}
end
end Go.GV
namespace Go.GV
open Go.RowKit
theorem map_at {α:Type} (f:α→Value) (xs:List α) (d:α) {k:Nat} (hk:k<xs.length):(xs.map f)[k]? = some (f (xs.getD k d)):=by
  simp [List.getD_eq_getElem?_getD,List.getElem?_eq_getElem hk]
def one (v:Value):Bool:=match v with
  | .agg _ | .tuple _=>false
  | _=>true
theorem one_cells {v:Value} (h:one v=true):v.cells.toList=[v]:=by cases v <;> first | rfl | cases h
theorem one_cell' {v:Value} (h:one v=true):v.oneCell'=true:=by cases v <;> first | rfl | cases h
section
variable {E:Env} {P:Program} {w:World} {x y z:Operand} {dst:Option Nat} {t t' ty u:TypeId} {pos:String} {af:Array Edge} {g:Option (Nat × Bool)}
theorem x_load_arr {α:Type} {S:List Nat} {w0:World} {L:List Ent} (j:Nat) (f:α→Value) (d:α) {b k:Nat} {tb:TypeId} {xs:List α} {fz:Nat × Nat} (hx:ev E x = .pointer (some ⟨b,k,none⟩)) (hj:L[j]? = some (Ent.blk b tb (xs.map f) fz)) (hs:scal P t=true) (hk:k<xs.length) :
    ∀ w,St S w0 w L→(execOp (ev E) ⟨dst,.load t x,ty,pos,af,g⟩).run P w = .ok (.value (f (xs.getD k d))) w:=x_load j hx hj hs (map_at f xs d hk)
theorem O_store_arr {α:Type} {S:List Nat} {w0:World} {L:List Ent} {K:Value→List Ent→Prop} (j:Nat) (f:α→Value) {b k:Nat} {tb:TypeId} {xs:List α} {fz:Nat × Nat} {a:α} (L':List Ent)
    (hx:ev E x = .pointer (some ⟨b,k,none⟩)) (hy:ev E y=f a) (hj:L[j]? = some (Ent.blk b tb (xs.map f) fz)) (hn:sizeIs P t=some 1) (h1:one (f a)=true) (hl:k<xs.length)
    (hL:L.set j (Ent.blk b tb ((xs.set k a).map f) fz)=L') (kk:K undef L'):OpJ P S w0 E L ⟨dst,.store t x y,ty,pos,af,g⟩ K:=
  O_store (v:=f a) j ((xs.set k a).map f) L' hx hy hj hn (by rw [one_cells h1];rfl) (by simp;omega) (by rw [one_cells h1];simp [one_cell' h1]) (by rw [one_cells h1];simp [splice,List.map_set]) hL kk
theorem add_0k1 (b k:Nat):(⟨b,0,none⟩:Addr).add (k*1)=⟨b,k,none⟩:=by rw [add_lit,Nat.mul_one,Nat.zero_add]
theorem run_subarr {a:Addr} {e:TypeId} {len n lo hi:Nat} {vlo vhi:Option Value} (ht:P.underlying t=some (.array len e)) (hn:sizeIs P e=some n) (hlo:vlo=some (vI (lo:Int))∨(vlo=none∧lo=0)) (hhi:vhi=some (vI (hi:Int))∨(vhi=none∧hi=len))
    (h1:lo≤hi) (h2:hi≤len) (h3:lo<len∨lo=0):(Instr.sliceAt t (.pointer (some a)) vlo vhi none).run P w = .ok (.slice (some (a.add (lo*n))) (hi-lo) (len-lo)) w:=by
  have ha:(if len=lo then a else a.add (lo*n))=a.add (lo*n):=by
    split
    · rcases h3 with h3 | h3
      · omega
      · subst h3;simp [Addr.add]
    · rfl
  have e1:(0:Int)≤(hi:Int)∧(hi:Int)≤((len:Nat):Int):=by omega
  have e2:(0:Int)≤(lo:Int)∧(lo:Int)≤((hi:Nat):Int):=by omega
  rcases hlo with rfl | ⟨rfl,rfl⟩ <;> rcases hhi with rfl | ⟨rfl,rfl⟩ <;>
    simp only [Instr.sliceAt,Instr.sureAddr,Instr.sliceBounds,Instr.sliceBound,asIntOf,run_underlying ht,Sem.run_bind,Sem.run_pure,Result.andThen_ok,Option.isSome_none,Bool.false_eq_true,if_false,if_pos e1,if_pos e2,Int.toNat_natCast,run_sizeOf_is hn,ha]
theorem x_subarr {a b:Addr} {e:TypeId} {len n lo hi:Nat} {olo ohi:Option Operand} (hx:ev E x = .pointer (some a)) (ht:P.underlying t=some (.array len e)) (hn:sizeIs P e=some n) (hlo:olo.map (ev E)=some (vI (lo:Int))∨(olo.map (ev E)=none∧lo=0)) (hhi:ohi.map (ev E)=some (vI (hi:Int))∨(ohi.map (ev E)=none∧hi=len))
    (h1:lo≤hi) (h2:hi≤len) (h3:lo<len∨lo=0) (hb:a.add (lo*n)=b):(execOp (ev E) ⟨dst,.slice t x olo ohi none,ty,pos,af,g⟩).run P w = .ok (.value (.slice (some b) (hi-lo) (len-lo))) w:=by
  subst hb
  have hr:=run_subarr (P:=P) (w:=w) (a:=a) ht hn hlo hhi h1 h2 h3
  simp only [execOp,hx]
  show Sem.run P (do let v ← Instr.sliceAt t (.pointer (some a)) (olo.map (ev E)) (ohi.map (ev E)) none;pure (Next.value v)) w=_
  rw [Sem.run_bind,hr];rfl
theorem x_str_arr {S:List Nat} {w0:World} {L:List Ent} (j:Nat) {b off n c:Nat} {tb e:TypeId} {xs:Bytes} {fz:Nat × Nat} (hx:ev E x = .slice (some ⟨b,off,none⟩) n c)
    (hs:P.underlying t=some (.slice e)) (he:P.underlying e=some (.int .u8)) (hd:P.underlying u=some .string) (hj:L[j]? = some (Ent.blk b tb (xs.map vU8) fz)) (hn:off+n≤xs.length) :
    ∀ w,St S w0 w L→(execOp (ev E) ⟨dst,.convert t u x,ty,pos,af,g⟩).run P w = .ok (.value (vS ((xs.drop off).take n))) w:=
  x_str_blk j hx hs he hd hj (by simp [List.length_take];omega) (by simp [List.map_take,List.map_drop])
end
end Go.GV
