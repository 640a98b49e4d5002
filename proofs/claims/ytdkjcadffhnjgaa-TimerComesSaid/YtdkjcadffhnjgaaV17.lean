/- Numbers in a walk. -/
import Derived.Test.YtdkjcadffhnjgaaV16
namespace Go.V
open Go
section
variable {k : IntKind} {a b : Int}
theorem wrap_i64 {x : Int} (h1 : -9223372036854775808 ≤ x) (h2 : x ≤ 9223372036854775807) : IntKind.i64.wrap x = x := by
  unfold IntKind.wrap IntKind.bits IntKind.signed
  simp only [Bool.true_and, decide_eq_true_eq]
  split <;> omega
theorem i_add (h1 : -9223372036854775808 ≤ a + b) (h2 : a + b ≤ 9223372036854775807) : ibin .add .i64 a .i64 b = some (.int .i64 (a + b)) := by simp [ibin, wrap_i64 h1 h2]
theorem i_sub (h1 : -9223372036854775808 ≤ a - b) (h2 : a - b ≤ 9223372036854775807) : ibin .sub .i64 a .i64 b = some (.int .i64 (a - b)) := by simp [ibin, wrap_i64 h1 h2]
theorem i_lssT (h : a < b) : ibin .lss k a k b = some (.bool true) := by simp [ibin, h]
theorem i_lssF (h : ¬ a < b) : ibin .lss k a k b = some (.bool false) := by simp [ibin]; omega
theorem i_leqT (h : a ≤ b) : ibin .leq k a k b = some (.bool true) := by simp [ibin, h]
theorem i_leqF (h : ¬ a ≤ b) : ibin .leq k a k b = some (.bool false) := by simp [ibin]; omega
theorem i_gtrT (h : a > b) : ibin .gtr k a k b = some (.bool true) := by simp [ibin]; omega
theorem i_gtrF (h : ¬ a > b) : ibin .gtr k a k b = some (.bool false) := by simp [ibin]; omega
theorem i_geqT (h : a ≥ b) : ibin .geq k a k b = some (.bool true) := by simp [ibin]; omega
theorem i_geqF (h : ¬ a ≥ b) : ibin .geq k a k b = some (.bool false) := by simp [ibin]; omega
theorem i_eqlT (h : a = b) : ibin .eql k a k b = some (.bool true) := by simp [ibin, h]
theorem i_eqlF (h : ¬ a = b) : ibin .eql k a k b = some (.bool false) := by simp [ibin, h]
theorem i_neqT (h : ¬ a = b) : ibin .neq k a k b = some (.bool true) := by simp [ibin, h]
theorem i_neqF (h : a = b) : ibin .neq k a k b = some (.bool false) := by simp [ibin, h]
end
end Go.V
