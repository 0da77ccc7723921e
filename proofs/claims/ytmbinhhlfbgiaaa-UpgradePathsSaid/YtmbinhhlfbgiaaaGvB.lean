/- GvB: what single operations give on typed values: int, the unsigned kinds, strings as lists of bytes. (Printed by genB.py.) -/
import Derived.Test.YtmbinhhlfbgiaaaGvA
namespace Go.GV
abbrev vB (b : Bool) : Value := .bool b
abbrev vI (n : Int) : Value := .int .i64 n
abbrev vU8 (x : UInt8) : Value := .int .u8 (x.toNat : Int)
abbrev vU16 (x : UInt16) : Value := .int .u16 (x.toNat : Int)
abbrev vU32 (x : UInt32) : Value := .int .u32 (x.toNat : Int)
abbrev vU64 (x : UInt64) : Value := .int .u64 (x.toNat : Int)
abbrev Bytes := List UInt8
abbrev vS (l : Bytes) : Value := .string ⟨l.toArray⟩
theorem wrap_i64_in (n : Int) (h1 : -9223372036854775808 ≤ n) (h2 : n ≤ 9223372036854775807) : IntKind.i64.wrap n = n := by
  rw [IntKind.wrap_i64]; omega
theorem i64_max : IntKind.i64.max = 9223372036854775807 := by decide
section
variable {E : Env} {P : Program} {w : World} {x y z : Operand} {dst : Option Nat} {t t' ty u : TypeId} {pos : String} {af : Array Edge} {g : Option (Nat × Bool)}
theorem x_lss_i {a b : Int} (hx : ev E x = vI a) (hy : ev E y = vI b) : (execOp (ev E) ⟨dst, .binOp .lss t x y t', ty, pos, af, g⟩).run P w = .ok (.value (vB (decide (a < b)))) w := by simp only [execOp, hx, hy]; rfl
theorem x_leq_i {a b : Int} (hx : ev E x = vI a) (hy : ev E y = vI b) : (execOp (ev E) ⟨dst, .binOp .leq t x y t', ty, pos, af, g⟩).run P w = .ok (.value (vB (decide (a ≤ b)))) w := by simp only [execOp, hx, hy]; rfl
theorem x_gtr_i {a b : Int} (hx : ev E x = vI a) (hy : ev E y = vI b) : (execOp (ev E) ⟨dst, .binOp .gtr t x y t', ty, pos, af, g⟩).run P w = .ok (.value (vB (decide (b < a)))) w := by simp only [execOp, hx, hy]; rfl
theorem x_geq_i {a b : Int} (hx : ev E x = vI a) (hy : ev E y = vI b) : (execOp (ev E) ⟨dst, .binOp .geq t x y t', ty, pos, af, g⟩).run P w = .ok (.value (vB (decide (b ≤ a)))) w := by simp only [execOp, hx, hy]; rfl
theorem int_beq (a b : Int) : (a == b) = decide (a = b) := by rw [Bool.eq_iff_iff]; simp
theorem int_bne (a b : Int) : (a != b) = decide (a ≠ b) := by rw [Bool.eq_iff_iff]; simp
theorem x_eql_i {a b : Int} (hx : ev E x = vI a) (hy : ev E y = vI b) : (execOp (ev E) ⟨dst, .binOp .eql t x y t', ty, pos, af, g⟩).run P w = .ok (.value (vB (decide (a = b)))) w := by rw [← int_beq]; simp only [execOp, hx, hy]; rfl
theorem x_neq_i {a b : Int} (hx : ev E x = vI a) (hy : ev E y = vI b) : (execOp (ev E) ⟨dst, .binOp .neq t x y t', ty, pos, af, g⟩).run P w = .ok (.value (vB (decide (a ≠ b)))) w := by rw [← int_bne]; simp only [execOp, hx, hy]; rfl
theorem x_add_iw {a b : Int} (hx : ev E x = vI a) (hy : ev E y = vI b) : (execOp (ev E) ⟨dst, .binOp .add t x y t', ty, pos, af, g⟩).run P w = .ok (.value (vI (IntKind.i64.wrap (a + b)))) w := by simp only [execOp, hx, hy]; rfl
theorem x_add_i {a b : Int} (hx : ev E x = vI a) (hy : ev E y = vI b) (h1 : -9223372036854775808 ≤ a + b) (h2 : a + b ≤ 9223372036854775807) : (execOp (ev E) ⟨dst, .binOp .add t x y t', ty, pos, af, g⟩).run P w = .ok (.value (vI (a + b))) w := by
  rw [x_add_iw hx hy, wrap_i64_in _ h1 h2]
theorem x_sub_iw {a b : Int} (hx : ev E x = vI a) (hy : ev E y = vI b) : (execOp (ev E) ⟨dst, .binOp .sub t x y t', ty, pos, af, g⟩).run P w = .ok (.value (vI (IntKind.i64.wrap (a - b)))) w := by simp only [execOp, hx, hy]; rfl
theorem x_sub_i {a b : Int} (hx : ev E x = vI a) (hy : ev E y = vI b) (h1 : -9223372036854775808 ≤ a - b) (h2 : a - b ≤ 9223372036854775807) : (execOp (ev E) ⟨dst, .binOp .sub t x y t', ty, pos, af, g⟩).run P w = .ok (.value (vI (a - b))) w := by
  rw [x_sub_iw hx hy, wrap_i64_in _ h1 h2]
theorem x_mul_iw {a b : Int} (hx : ev E x = vI a) (hy : ev E y = vI b) : (execOp (ev E) ⟨dst, .binOp .mul t x y t', ty, pos, af, g⟩).run P w = .ok (.value (vI (IntKind.i64.wrap (a * b)))) w := by simp only [execOp, hx, hy]; rfl
theorem x_mul_i {a b : Int} (hx : ev E x = vI a) (hy : ev E y = vI b) (h1 : -9223372036854775808 ≤ a * b) (h2 : a * b ≤ 9223372036854775807) : (execOp (ev E) ⟨dst, .binOp .mul t x y t', ty, pos, af, g⟩).run P w = .ok (.value (vI (a * b))) w := by
  rw [x_mul_iw hx hy, wrap_i64_in _ h1 h2]
theorem x_quo_i {a b : Int} (hx : ev E x = vI a) (hy : ev E y = vI b) (ha : 0 ≤ a) (ha' : a ≤ 9223372036854775807) (hb : 0 < b) : (execOp (ev E) ⟨dst, .binOp .quo t x y t', ty, pos, af, g⟩).run P w = .ok (.value (vI (a / b))) w := by
  have h0 : ¬ b = 0 := by omega
  have h1 : a.tdiv b = a / b := Int.tdiv_eq_ediv_of_nonneg ha
  have h2 : 0 ≤ a / b := Int.ediv_nonneg ha (by omega)
  have h3 : a / b ≤ a := Int.ediv_le_self b ha
  have h4 : IntKind.i64.wrap (a.tdiv b) = a / b := by rw [h1]; exact wrap_i64_in _ (by omega) (by omega)
  simp only [execOp, hx, hy]
  show Sem.run P (do let v ← (do eqGuard .quo t x y (vI a) (vI b); if (IntKind.i64 ≠ IntKind.i64) then stuck "BinOp: operands of different kinds" else Op.intDiv .quo .i64 a b); pure (Next.value v)) w = _
  simp only [Op.intDiv, if_neg h0, h4]; rfl
theorem x_not {b : Bool} (hx : ev E x = vB b) : (execOp (ev E) ⟨dst, .unOp .not t x, ty, pos, af, g⟩).run P w = .ok (.value (vB (!b))) w := by simp only [execOp, hx]; rfl
theorem wrap_u64 (n : Int) : IntKind.u64.wrap n = ((UInt64.ofInt n).toNat : Int) := by
  have h : IntKind.u64.wrap n = n % (2 ^ 64 : Int) := by simp [IntKind.wrap, IntKind.bits, IntKind.signed]
  rw [h]
  have h0 : 0 ≤ n % (2 ^ 64 : Int) := Int.emod_nonneg _ (by decide)
  have h1 : n % (2 ^ 64 : Int) < 2 ^ 64 := Int.emod_lt_of_pos _ (by decide)
  simp only [UInt64.ofInt, UInt64.toNat_ofNat']
  omega
theorem ofInt_u64_nat (n : Nat) : UInt64.ofInt (n : Int) = UInt64.ofNat n := by
  apply UInt64.toNat_inj.1
  simp only [UInt64.ofInt, UInt64.toNat_ofNat']
  omega
theorem wrap_u64_lt (n : Nat) (h : n < 2 ^ 64) : IntKind.u64.wrap (n : Int) = (n : Int) := by
  rw [wrap_u64, ofInt_u64_nat, UInt64.toNat_ofNat', Nat.mod_eq_of_lt h]
theorem ofInt_u64_bv (a : UInt64) : BitVec.ofInt 64 (a.toNat : Int) = a.toBitVec := by
  rw [BitVec.ofInt_natCast]; apply BitVec.eq_of_toNat_eq; simp
theorem x_or_u64 {a b : UInt64} (hx : ev E x = vU64 a) (hy : ev E y = vU64 b) : (execOp (ev E) ⟨dst, .binOp .or t x y t', ty, pos, af, g⟩).run P w = .ok (.value (vU64 (a ||| b))) w := by
  have h : IntKind.u64.wrap ((BitVec.ofInt 64 (a.toNat : Int) ||| BitVec.ofInt 64 (b.toNat : Int)).toNat : Int) = ((a ||| b).toNat : Int) := by
    rw [ofInt_u64_bv, ofInt_u64_bv, wrap_u64_lt _ (BitVec.isLt _)]; rfl
  simp only [execOp, hx, hy]
  show Result.ok (Next.value (.int .u64 (IntKind.u64.wrap ((BitVec.ofInt 64 (a.toNat : Int) ||| BitVec.ofInt 64 (b.toNat : Int)).toNat : Int)))) w = _
  rw [h]
theorem x_shl_u64 {a : UInt64} {k : IntKind} {m : Nat} (hx : ev E x = vU64 a) (hy : ev E y = .int k (m : Int)) (hm : m < 64) : (execOp (ev E) ⟨dst, .binOp .shl t x y t', ty, pos, af, g⟩).run P w = .ok (.value (vU64 (UInt64.ofBitVec (a.toBitVec <<< m)))) w := by
  have h1 : ¬ ((m : Int) < 0) := by omega
  have h2 : min m 64 = m := by omega
  have h3 : IntKind.u64.wrap ((a.toNat : Int) * 2 ^ m) = ((UInt64.ofBitVec (a.toBitVec <<< m)).toNat : Int) := by
    have hc : ((a.toNat : Int) * 2 ^ m) = ((a.toNat * 2 ^ m : Nat) : Int) := by simp
    rw [hc, wrap_u64, ofInt_u64_nat, UInt64.toNat_ofNat']
    show _ = ((a.toBitVec <<< m).toNat : Int)
    rw [BitVec.toNat_shiftLeft, Nat.shiftLeft_eq]
    rfl
  simp only [execOp, hx, hy]
  show Sem.run P (do let v ← (do eqGuard .shl t x y (vU64 a) (.int k (m : Int)); Op.shift .shl .u64 (a.toNat : Int) k (m : Int)); pure (Next.value v)) w = _
  simp only [Op.shift, if_neg h1, Int.toNat_natCast, IntKind.bits, h2, h3]; rfl
theorem x_gtr_u64 {a b : UInt64} (hx : ev E x = vU64 a) (hy : ev E y = vU64 b) : (execOp (ev E) ⟨dst, .binOp .gtr t x y t', ty, pos, af, g⟩).run P w = .ok (.value (vB (decide (b < a)))) w := by
  have h : decide (b < a) = decide ((b.toNat : Int) < (a.toNat : Int)) := decide_eq_decide.2 (by rw [UInt64.lt_iff_toNat_lt]; omega)
  rw [h]; simp only [execOp, hx, hy]; rfl
theorem x_conv_u8_u64 {a : UInt8} {q : TypeDesc} (hx : ev E x = vU8 a) (hs : P.underlying t = some q) (hd : P.underlying u = some (.int .u64)) : (execOp (ev E) ⟨dst, .convert t u x, ty, pos, af, g⟩).run P w = .ok (.value (vU64 a.toUInt64)) w := by
  have hr : (convert t u (vU8 a)).run P w = .ok (.int .u64 (IntKind.u64.wrap (a.toNat : Int))) w := by
    simp [convert, run_underlying hs, run_underlying hd, Conv.intToInt]
  simp only [execOp, hx]
  show (Sem.run P (do let v ← convert t u (vU8 a); pure (Next.value v)) w) = _
  rw [Sem.run_bind, hr]
  simp only [Result.andThen_ok]
  have e : UInt64.ofNat a.toNat = a.toUInt64 := by apply UInt64.toNat_inj.1; rw [UInt64.toNat_ofNat']; simp
  rw [wrap_u64, ofInt_u64_nat, e]; rfl
theorem x_conv_u64_i64 {a : UInt64} {q : TypeDesc} (hx : ev E x = vU64 a) (hs : P.underlying t = some q) (hd : P.underlying u = some (.int .i64)) (h2 : a.toNat ≤ 9223372036854775807) : (execOp (ev E) ⟨dst, .convert t u x, ty, pos, af, g⟩).run P w = .ok (.value (vI (a.toNat : Int))) w := by
  have hr : (convert t u (vU64 a)).run P w = .ok (.int .i64 (IntKind.i64.wrap (a.toNat : Int))) w := by
    simp [convert, run_underlying hs, run_underlying hd, Conv.intToInt]
  simp only [execOp, hx]
  show (Sem.run P (do let v ← convert t u (vU64 a); pure (Next.value v)) w) = _
  rw [Sem.run_bind, hr]
  simp only [Result.andThen_ok]
  rw [wrap_i64_in _ (by omega) (by omega)]; rfl
theorem x_len_s {l : Bytes} (hx : ev E x = vS l) (ht : P.underlying t = some .string) : (execOp (ev E) ⟨dst, .call ⟨.builtin .len, #[x], #[t]⟩, ty, pos, af, g⟩).run P w = .ok (.value (vI (l.length : Int))) w := by
  have hr : (Builtin.len_ #[t] ty #[vS l]).run P w = .ok (vI (l.length : Int)) w := by
    have hsz : (⟨l.toArray⟩ : ByteArray).size = l.length := by simp [ByteArray.size]
    simp [Builtin.len_, run_underlying ht, goInt, vS, hsz]
  simp [execOp, resolve, invoke, builtin, hx, hr]
def sub (l : Bytes) (lo hi : Nat) : Bytes := (l.take hi).drop lo
theorem sub_length (l : Bytes) (lo hi : Nat) (h : hi ≤ l.length) : (sub l lo hi).length = hi - lo := by simp [sub, List.length_take]; omega
theorem sub_from (l : Bytes) (lo : Nat) : sub l lo l.length = l.drop lo := by simp [sub]
theorem extract_vS (l : Bytes) (lo hi : Nat) : (⟨l.toArray⟩ : ByteArray).extract lo hi = ⟨(sub l lo hi).toArray⟩ := by
  apply ByteArray.ext
  rw [ByteArray.data_extract]
  apply Array.toList_inj.1
  simp [sub, List.extract, List.take_drop]
  rcases Nat.le_total lo hi with h | h
  · rw [Nat.add_sub_cancel' h]
  · have : lo + (hi - lo) = lo := by omega
    rw [this]
    rw [List.drop_eq_nil_of_le (by simp; omega), List.drop_eq_nil_of_le (by simp; omega)]
theorem run_sub_s {l : Bytes} {lo hi : Nat} {vlo vhi : Option Value} (ht : P.underlying t = some .string) (hlo : vlo = some (vI (lo : Int)) ∨ (vlo = none ∧ lo = 0)) (hhi : vhi = some (vI (hi : Int)) ∨ (vhi = none ∧ hi = l.length))
    (h1 : lo ≤ hi) (h2 : hi ≤ l.length) : (Instr.slice t (vS l) vlo vhi none).run P w = .ok (vS (sub l lo hi)) w := by
  have hsz : (⟨l.toArray⟩ : ByteArray).size = l.length := by simp [ByteArray.size]
  have e1 : (0 : Int) ≤ (hi : Int) ∧ (hi : Int) ≤ ((l.length : Nat) : Int) := by omega
  have e2 : (0 : Int) ≤ (lo : Int) ∧ (lo : Int) ≤ ((hi : Nat) : Int) := by omega
  rcases hlo with rfl | ⟨rfl, rfl⟩ <;> rcases hhi with rfl | ⟨rfl, rfl⟩
  · simp only [Instr.slice, Instr.sliceBounds, Instr.sliceBound, asIntOf, run_underlying ht, Sem.run_bind, Sem.run_pure, Result.andThen_ok, hsz, Option.isSome_none, Bool.false_eq_true, if_false, if_pos e1, if_pos e2, Int.toNat_natCast, extract_vS]
  · simp only [Instr.slice, Instr.sliceBounds, Instr.sliceBound, asIntOf, run_underlying ht, Sem.run_bind, Sem.run_pure, Result.andThen_ok, hsz, Option.isSome_none, Bool.false_eq_true, if_false, if_pos e2, Int.toNat_natCast, extract_vS]
  · simp only [Instr.slice, Instr.sliceBounds, Instr.sliceBound, asIntOf, run_underlying ht, Sem.run_bind, Sem.run_pure, Result.andThen_ok, hsz, Option.isSome_none, Bool.false_eq_true, if_false, if_pos e1, Int.toNat_natCast, extract_vS]
  · simp only [Instr.slice, Instr.sliceBounds, run_underlying ht, Sem.run_bind, Sem.run_pure, Result.andThen_ok, hsz, Option.isSome_none, Bool.false_eq_true, if_false, extract_vS]
theorem x_sub_s {l : Bytes} {lo hi : Nat} {olo ohi : Option Operand} (hx : ev E x = vS l) (ht : P.underlying t = some .string) (hlo : olo.map (ev E) = some (vI (lo : Int)) ∨ (olo.map (ev E) = none ∧ lo = 0)) (hhi : ohi.map (ev E) = some (vI (hi : Int)) ∨ (ohi.map (ev E) = none ∧ hi = l.length))
    (h1 : lo ≤ hi) (h2 : hi ≤ l.length) : (execOp (ev E) ⟨dst, .slice t x olo ohi none, ty, pos, af, g⟩).run P w = .ok (.value (vS (sub l lo hi))) w := by
  have hr := run_sub_s (P := P) (w := w) ht hlo hhi h1 h2
  have hr2 : (Instr.sliceAt t (vS l) (olo.map (ev E)) (ohi.map (ev E)) none).run P w = .ok (vS (sub l lo hi)) w := by
    simp only [Instr.sliceAt, run_underlying ht, Sem.run_bind, Result.andThen_ok]; exact hr
  simp only [execOp, hx]
  show Sem.run P (do let v ← Instr.sliceAt t (vS l) (olo.map (ev E)) (ohi.map (ev E)) none; pure (Next.value v)) w = _
  rw [Sem.run_bind, hr2]; rfl
theorem append_vS (a b : Bytes) : (⟨a.toArray⟩ : ByteArray) ++ ⟨b.toArray⟩ = ⟨(a ++ b).toArray⟩ := by
  apply ByteArray.ext; rw [ByteArray.data_append]; simp
theorem x_cat_s {a b : Bytes} (hx : ev E x = vS a) (hy : ev E y = vS b) (h : a.length + b.length ≤ 9223372036854775807) : (execOp (ev E) ⟨dst, .binOp .add t x y t', ty, pos, af, g⟩).run P w = .ok (.value (vS (a ++ b))) w := by
  have h' : ¬ (((⟨a.toArray⟩ : ByteArray).size + (⟨b.toArray⟩ : ByteArray).size : Nat) : Int) > IntKind.i64.max := by rw [i64_max]; simp [ByteArray.size]; omega
  have hr : (Op.stringOp .add ⟨a.toArray⟩ ⟨b.toArray⟩).run P w = .ok (vS (a ++ b)) w := by
    simp only [Op.stringOp, if_neg h', append_vS]; rfl
  simp only [execOp, hx, hy]
  show Sem.run P (do let v ← (Op.stringOp .add ⟨a.toArray⟩ ⟨b.toArray⟩); pure (Next.value v)) w = _
  rw [Sem.run_bind, hr]; rfl
theorem x_eql_s {a b : Bytes} (hx : ev E x = vS a) (hy : ev E y = vS b) : (execOp (ev E) ⟨dst, .binOp .eql t x y t', ty, pos, af, g⟩).run P w = .ok (.value (vB (decide (a = b)))) w := by
  have hr : (Op.stringOp .eql ⟨a.toArray⟩ ⟨b.toArray⟩).run P w = .ok (vB (decide (a = b))) w := by
    have : ((⟨a.toArray⟩ : ByteArray).toList == (⟨b.toArray⟩ : ByteArray).toList) = decide (a = b) := by rw [ByteArray.toList_mk, ByteArray.toList_mk, Bool.eq_iff_iff]; simp
    simp only [Op.stringOp, this]; rfl
  simp only [execOp, hx, hy]
  show Sem.run P (do let v ← (Op.stringOp .eql ⟨a.toArray⟩ ⟨b.toArray⟩); pure (Next.value v)) w = _
  rw [Sem.run_bind, hr]; rfl
theorem x_neq_s {a b : Bytes} (hx : ev E x = vS a) (hy : ev E y = vS b) : (execOp (ev E) ⟨dst, .binOp .neq t x y t', ty, pos, af, g⟩).run P w = .ok (.value (vB (decide (a ≠ b)))) w := by
  have hr : (Op.stringOp .neq ⟨a.toArray⟩ ⟨b.toArray⟩).run P w = .ok (vB (decide (a ≠ b))) w := by
    have : (!((⟨a.toArray⟩ : ByteArray).toList == (⟨b.toArray⟩ : ByteArray).toList)) = decide (a ≠ b) := by rw [ByteArray.toList_mk, ByteArray.toList_mk, Bool.eq_iff_iff]; simp
    simp only [Op.stringOp, this]; rfl
  simp only [execOp, hx, hy]
  show Sem.run P (do let v ← (Op.stringOp .neq ⟨a.toArray⟩ ⟨b.toArray⟩); pure (Next.value v)) w = _
  rw [Sem.run_bind, hr]; rfl
theorem x_leq_s {a b : Bytes} (hx : ev E x = vS a) (hy : ev E y = vS b) : (execOp (ev E) ⟨dst, .binOp .leq t x y t', ty, pos, af, g⟩).run P w = .ok (.value (vB ((Op.bytesLess a b || decide (a = b))))) w := by
  have hr : (Op.stringOp .leq ⟨a.toArray⟩ ⟨b.toArray⟩).run P w = .ok (vB ((Op.bytesLess a b || decide (a = b)))) w := by
    have h2 : (a == b) = decide (a = b) := by rw [Bool.eq_iff_iff]; simp
    simp only [Op.stringOp, ByteArray.toList_mk, h2]; rfl
  simp only [execOp, hx, hy]
  show Sem.run P (do let v ← (Op.stringOp .leq ⟨a.toArray⟩ ⟨b.toArray⟩); pure (Next.value v)) w = _
  rw [Sem.run_bind, hr]; rfl
theorem x_gtr_s {a b : Bytes} (hx : ev E x = vS a) (hy : ev E y = vS b) : (execOp (ev E) ⟨dst, .binOp .gtr t x y t', ty, pos, af, g⟩).run P w = .ok (.value (vB ((!(Op.bytesLess a b || decide (a = b)))))) w := by
  have hr : (Op.stringOp .gtr ⟨a.toArray⟩ ⟨b.toArray⟩).run P w = .ok (vB ((!(Op.bytesLess a b || decide (a = b))))) w := by
    have h2 : (a == b) = decide (a = b) := by rw [Bool.eq_iff_iff]; simp
    simp only [Op.stringOp, ByteArray.toList_mk, h2]; rfl
  simp only [execOp, hx, hy]
  show Sem.run P (do let v ← (Op.stringOp .gtr ⟨a.toArray⟩ ⟨b.toArray⟩); pure (Next.value v)) w = _
  rw [Sem.run_bind, hr]; rfl
theorem x_geq_s {a b : Bytes} (hx : ev E x = vS a) (hy : ev E y = vS b) : (execOp (ev E) ⟨dst, .binOp .geq t x y t', ty, pos, af, g⟩).run P w = .ok (.value (vB ((!Op.bytesLess a b)))) w := by
  have hr : (Op.stringOp .geq ⟨a.toArray⟩ ⟨b.toArray⟩).run P w = .ok (vB ((!Op.bytesLess a b))) w := by
    simp only [Op.stringOp, ByteArray.toList_mk]; rfl
  simp only [execOp, hx, hy]
  show Sem.run P (do let v ← (Op.stringOp .geq ⟨a.toArray⟩ ⟨b.toArray⟩); pure (Next.value v)) w = _
  rw [Sem.run_bind, hr]; rfl
end
end Go.GV
