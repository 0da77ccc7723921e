/- GvT: small side goals, by name. -/
import Derived.Test.YtimjfpioenkbjaaGvH
namespace Go.GV
theorem lt_ {p : Prop} (h : p := by first | omega | (simp; omega) | (simp_all; omega) | (simp_all; done)) : p := h
theorem hy_ {p : Prop} (h : p := by first | omega | assumption | (simp only [List.length_append, List.length_cons, List.length_nil]; omega) | (simp only [sub, List.length_drop, List.length_take]; omega) | (simp; omega) | (simp_all; done) | (simp_all; omega) | decide) : p := h
theorem kr_ {p : Prop} (h : p := by kernel_rfl) : p := h
theorem ix_nat {v : Value} {i : Int} {k : Nat} (hv : v = vI i) (h : i = (k : Int)) : v = .int .i64 (k : Int) := by rw [hv, h]
end Go.GV
