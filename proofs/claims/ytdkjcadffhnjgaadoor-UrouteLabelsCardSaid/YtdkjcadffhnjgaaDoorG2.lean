/- Labels. -/
import Derived.Test.YtdkjcadffhnjgaaDoorG1
namespace Go.Proofs.YtdkjcadffhnjgaaDoor
open Go Go.V
set_option maxRecDepth 10000
theorem uLabel {a : Nat} (h : a ≤ 1048575) : U Tryd.prog 41 [.int .i64 a, .bool true] (.tup [.sl (bsl (be (a * 16 + 1) 3)), .int .i64 0]) := by
  intro σ Post hk
  have b1 : ibin .shl .i64 (a : Int) .u64 4 = some (.int .i64 ((a * 16 : Nat) : Int)) := ib_shlN (n := 4) (by omega) (by omega)
  have b2 : ibin .or .i64 ((a * 16 : Nat) : Int) .i64 1 = some (.int .i64 ((a * 16 + 1 : Nat) : Int)) := by
    have := ib_orN (a := a * 16) (b := 1) (by omega) (by omega)
    rw [show (a * 16) ||| 1 = a * 16 + 1 from by
      have := Nat.shiftLeft_add_eq_or_of_lt (i := 4) (b := 1) (by omega) a
      rw [Nat.shiftLeft_eq] at this
      exact this.symm] at this
    exact this
  refine T41 fun hB hA => ?_
  refine W ?_
  refine cu (uPut (l := []) (n := a * 16 + 1) (z := 3) (by omega) (by omega) (by omega) (by simp)) ?_
  refine W ?_
  exact hk
/-- What label.Read answers. -/
def readL (l : List UInt8) : Int × Bool × Int := if l.length = 3 ∧ big l 0 % 16 ≤ 1 then ((big l 0 / 16 : Nat), big l 0 % 2 == 1, 0) else (0, false, 4)
theorem uReadL {l : List UInt8} (hl : l.length ≤ 140737488355328) : U Tryd.prog 47 [.sl (bsl l)] (.tup [.int .i64 (readL l).1, .bool (readL l).2.1, .int .i64 (readL l).2.2]) := by
  intro σ Post hk
  refine T47 fun hB hA => ?_
  refine W ?_
  refine ct ?_
  refine tOpen hl ?_
  refine W ?_
  refine ct ?_
  refine tNum (lget rfl rfl) fun l1 l2 b hb => ?_
  rw [lset rfl]
  unfold readL at hk
  by_cases h3 : l.length = 3
  · have e1 : l1 = l := by grind
    subst e1
    have h4 := big_lt l1 0
    rw [h3] at h4
    have b1 : ibin .and .i64 (big l1 0 : Int) .i64 15 = some (.int .i64 ((big l1 0 % 16 : Nat) : Int)) := by
      have := ib_andN (a := big l1 0) (b := 15) (by omega) (by omega)
      rw [show (15 : Nat) = 2 ^ 4 - 1 from rfl, Nat.and_two_pow_sub_one_eq_mod] at this
      exact this
    have b2 : ibin .and .i64 (big l1 0 : Int) .i64 1 = some (.int .i64 ((big l1 0 % 2 : Nat) : Int)) := by
      have := ib_andN (a := big l1 0) (b := 1) (by omega) (by omega)
      rw [show (1 : Nat) = 2 ^ 1 - 1 from rfl, Nat.and_two_pow_sub_one_eq_mod] at this
      exact this
    have b3 : ibin .shr .i64 (big l1 0 : Int) .u64 4 = some (.int .i64 ((big l1 0 / 16 : Nat) : Int)) := ib_shrN (n := 4) (by decide)
    by_cases h5 : big l1 0 % 16 ≤ 1
    · rw [if_pos ⟨h3, h5⟩] at hk
      by_cases h6 : big l1 0 % 2 = 1
      · rw [show (big l1 0 % 2 == 1) = true by simp [h6]] at hk
        refine W ?_
        exact hk
      · rw [show (big l1 0 % 2 == 1) = false by simp [h6]] at hk
        refine W ?_
        exact hk
    · rw [if_neg (by omega)] at hk
      refine W ?_
      exact hk
  · rw [if_neg (by omega)] at hk
    refine W ?_
    exact hk
end Go.Proofs.YtdkjcadffhnjgaaDoor
