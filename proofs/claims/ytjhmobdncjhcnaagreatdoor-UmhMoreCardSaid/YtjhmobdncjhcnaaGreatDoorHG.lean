/- bytes.Equal; uroute.Bytes, whose row is the caller's. -/
import Derived.Test.YtjhmobdncjhcnaaGreatDoorGB
namespace Go.Proofs.YtjhmobdncjhcnaaGreatDoor
open Go Go.V
set_option maxRecDepth 10000
theorem uEqual {a b : List UInt8} : U Tryz.prog 188 [.sl (bsl a), .sl (bsl b)] (.bool (decide (a = b))) := by
  intro σ Post hk
  refine T188 fun hB hA => ?_
  refine W ?_
  exact hk
end Go.Proofs.YtjhmobdncjhcnaaGreatDoor
/- rd.Parts. -/
namespace Go.Proofs.YtjhmobdncjhcnaaGreatDoor
open Go Go.V
set_option maxRecDepth 10000
theorem tNumOk {σ : VHeap} {Post : KP} {id g : Nat} {l : List UInt8} {z : Nat} (h : vGet σ id g = some (.box [.sl (bsl l), .bool false] false)) (h1 : 1 ≤ z) (h4 : z ≤ 4) (hl : z ≤ l.length)
    (hk : Post (.int .i64 (big (l.take z) 0)) (σ.set id (g, .box [.sl (bsl (l.drop z)), .bool false] false))) : T Tryz.prog 58 [.ptr id g 0, .int .i64 z] σ Post := by
  refine tNum h fun l1 l2 b hb => ?_
  rw [if_neg (by simp; omega), Int.toNat_natCast] at hb
  obtain ⟨rfl, rfl, rfl⟩ := hb
  exact hk
def highS (k : Int) : Int × Bool := if k = 0 then (2, true) else if k = 1 ∨ k = 2 then (4, true) else (0, false)
theorem uHigh {k : Int} : U Tryz.prog 115 [.int .i64 k] (.tup [.int .i64 (highS k).1, .bool (highS k).2]) := by
  intro σ Post hk
  unfold highS at hk
  refine T115 fun hB hA => ?_
  by_cases h0 : k = 0
  · rw [if_pos h0] at hk
    refine W ?_
    exact hk
  · rw [if_neg h0] at hk
    by_cases h1 : k = 1
    · rw [if_pos (.inl h1)] at hk
      refine W ?_
      exact hk
    · by_cases h2 : k = 2
      · rw [if_pos (.inr h2)] at hk
        refine W ?_
        exact hk
      · rw [if_neg (by omega)] at hk
        refine W ?_
        exact hk
end Go.Proofs.YtjhmobdncjhcnaaGreatDoor
