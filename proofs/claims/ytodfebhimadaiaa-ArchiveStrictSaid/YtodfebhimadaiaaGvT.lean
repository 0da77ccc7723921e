/- GvT: small side goals, by name. -/
import Derived.Test.YtodfebhimadaiaaGvH
namespace Go.GV
theorem lt_ {p : Prop} (h : p := by first | omega | (simp; omega) | (simp_all; omega) | (simp_all; done)) : p := h
theorem hy_ {p : Prop} (h : p := by first | omega | assumption | (simp only [List.length_append, List.length_cons, List.length_nil]; omega) | (simp only [sub, List.length_drop, List.length_take]; omega) | (simp; omega) | (simp_all; done) | (simp_all; omega) | decide) : p := h
theorem kr_ {p : Prop} (h : p := by kernel_rfl) : p := h
theorem ix_nat {v : Value} {i : Int} {k : Nat} (hv : v = vI i) (h : i = (k : Int)) : v = .int .i64 (k : Int) := by rw [hv, h]
theorem st_all {cs vs : List Value} {n : Nat} (h : Nat.ble cs.length (0 + n) = true) : cs.take 0 ++ (vs ++ cs.drop (0 + n)) = vs := by
  rw [List.drop_of_length_le (Nat.le_of_ble_eq_true h), List.append_nil]; rfl
end Go.GV
