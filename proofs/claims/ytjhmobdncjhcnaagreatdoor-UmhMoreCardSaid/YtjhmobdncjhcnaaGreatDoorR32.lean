/- cmp.Compare of texts. -/
import Derived.Test.YtjhmobdncjhcnaaGreatDoorR4
import Derived.Test.YtjhmobdncjhcnaaGreatDoorF8
namespace Go.Proofs.YtjhmobdncjhcnaaGreatDoor
open Go Go.V
set_option maxRecDepth 10000
attribute [local irreducible] vBuild vCallV
theorem uNanS {s : List UInt8} : U Tryz.prog 123 [.str s] (.bool false) := by
  intro σ Post hk
  have e : sbin .neq s s = some (.bool false) := by rw [sb_neq]; simp
  refine T123 fun hB hA => ?_
  refine W ?_
  exact hk
def cmpS (a b : List UInt8) : Int := if Op.bytesLess a b = true then -1 else if (Op.bytesLess a b || a == b) = true then 0 else 1
theorem uCmpS {a b : List UInt8} : U Tryz.prog 75 [.str a, .str b] (.int .i64 (cmpS a b)) := by
  intro σ Post hk
  unfold cmpS at hk
  refine T75 fun hB hA => ?_
  refine W ?_
  refine cu (uNanS (s := a)) ?_
  refine W ?_
  refine cu (uNanS (s := b)) ?_
  cases h1 : Op.bytesLess a b with
  | true =>
    have e1 : sbin .lss a b = some (.bool true) := by rw [sbin, h1]
    rw [h1, if_pos rfl] at hk
    refine W ?_
    exact hk
  | false =>
    have e1 : sbin .lss a b = some (.bool false) := by rw [sbin, h1]
    rw [h1, if_neg (by decide), Bool.false_or] at hk
    cases h2 : (a == b) with
    | true =>
      have e2 : sbin .gtr a b = some (.bool false) := by rw [sbin, h1, h2]; rfl
      rw [h2, if_pos rfl] at hk
      refine W ?_
      exact hk
    | false =>
      have e2 : sbin .gtr a b = some (.bool true) := by rw [sbin, h1, h2]; rfl
      rw [h2, if_neg (by decide)] at hk
      refine W ?_
      exact hk
end Go.Proofs.YtjhmobdncjhcnaaGreatDoor
