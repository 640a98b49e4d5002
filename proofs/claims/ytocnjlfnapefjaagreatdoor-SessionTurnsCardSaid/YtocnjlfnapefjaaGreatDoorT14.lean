/- Messages: which opens are right. -/
import Derived.Test.YtocnjlfnapefjaaGreatDoorT13
namespace Go.Proofs.YtocnjlfnapefjaaGreatDoor
open Go Go.V
set_option maxRecDepth 10000
set_option linter.unusedVariables false
attribute [local irreducible] vBuild vCallV
def knownF (f : Fm) : Bool := (decide (f.size = 4) || decide (f.size = 16)) && (decide (f.safi = 5) || decide (f.safi = 128))
set_option maxHeartbeats 4000000 in
theorem uKnown {f : Fm} : U Tryz.prog 35 [.agg (fmC f)] (.bool (knownF f)) := by
  intro σ Post hk
  unfold knownF at hk
  refine T35 fun hB hA => ?_
  by_cases s4 : f.size = 4
  · by_cases a5 : f.safi = 5
    · refine W ?_
      exact fin hk (by simp [s4, a5])
    · by_cases a8 : f.safi = 128
      · refine W ?_
        exact fin hk (by simp [s4, a8])
      · refine W ?_
        exact fin hk (by simp [s4, a5, a8])
  · by_cases s16 : f.size = 16
    · by_cases a5 : f.safi = 5
      · refine W ?_
        exact fin hk (by simp [s16, a5])
      · by_cases a8 : f.safi = 128
        · refine W ?_
          exact fin hk (by simp [s16, a8])
        · refine W ?_
          exact fin hk (by simp [s16, a5, a8])
    · refine W ?_
      exact fin hk (by simp [s4, s16])
def routerF (a : Ad) : Bool := okAd a && decide (a.s = 4) && decide (a ≠ ⟨4, z16⟩)
set_option maxHeartbeats 4000000 in
theorem uRouter {a : Ad} (h : okD a) : U Tryz.prog 47 [.agg (adc a)] (.bool (routerF a)) := by
  intro σ Post hk
  have sc := adc_sc (a := a)
  have ln := adc_len h
  have c0 := adc_all h
  have c1 := adc_s (a := a)
  have q0 : eqCells ([.i .i64] ++ List.replicate 16 (.i .u8)) (adc a) (adc ⟨4, z16⟩) = some (decide (a = ⟨4, z16⟩)) := (eqC_ad h (show okD ⟨4, z16⟩ from rfl)).trans (by rw [Bool.beq_eq_decide_eq])
  unfold routerF at hk
  refine T47 fun hB hA => ?_
  refine W ?_
  refine cu (uRightD h) ?_
  cases r : okAd a with
  | false =>
    refine W ?_
    exact fin hk (by rw [r]; rfl)
  | true =>
    by_cases s4 : a.s = 4
    · by_cases e : a = ⟨4, z16⟩
      · rw [decide_eq_true e] at q0
        refine W ?_
        exact fin hk (by simp [*])
      · rw [decide_eq_false e] at q0
        refine W ?_
        exact fin hk (by simp [*])
    · refine W ?_
      exact fin hk (by simp [s4])
def foA (pre : List Fm) : List Fm → Bool
  | [] => true
  | x :: r => knownF x && !decide (x ∈ pre) && foA (pre ++ [x]) r
def rightOp (o : Opn) : Bool := foA [] o.fams && (routerF o.id && decide (1 ≤ o.asn) && decide (o.asn ≤ 4294967295) && (decide (o.hold = 0) || (decide (3 ≤ o.hold) && decide (o.hold < 65536))))
end Go.Proofs.YtocnjlfnapefjaaGreatDoor
