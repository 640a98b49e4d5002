/- vinerylaw18.Few. -/
import Derived.Test.YtjhmobdncjhcnaaGreatDoorR20
namespace Go.Proofs.YtjhmobdncjhcnaaGreatDoor
open Go Go.V
set_option maxRecDepth 10000
set_option linter.unusedVariables false
attribute [local irreducible] vBuild vCallV
def few18 (v : Vr) : Bool := decide (v.name.length < 1024) && (decide (v.imp.length < 50) && (decide (v.exp.length < 50) && decide (v.sel.length < 50)))
set_option maxHeartbeats 16000000 in
theorem uFew18 {v : Vr} (ov : okVr v) : U Tryz.prog 21 [.agg (vrC v)] (.bool (few18 v)) := by
  intro σ Post hk
  have sc := vrC_sc (x := v)
  have ln := vrC_len ov
  have c0 := vrC_all ov
  have g1 := vrC_gname ov
  have g2 := vrC_gnum ov
  have g3 := vrC_grd ov
  have g4 := vrC_gimp ov
  have g5 := vrC_gexp ov
  have g6 := vrC_grp ov
  have g7 := vrC_gsel ov
  have b1 : (v.imp.map u8c).length = v.imp.length := List.length_map _
  have b2 : (v.exp.map u8c).length = v.exp.length := List.length_map _
  have b3 : (v.sel.map adc).length = v.sel.length := List.length_map _
  refine T21 fun hB hA => ?_
  by_cases h1 : v.name.length < 1024
  · by_cases h2 : v.imp.length < 50
    · by_cases h3 : v.exp.length < 50
      · by_cases h4 : v.sel.length < 50
        · refine W ?_
          exact fin hk (by simp [few18, h1, h2, h3, h4])
        · refine W ?_
          exact fin hk (by simp [few18, h1, h2, h3, h4])
      · refine W ?_
        exact fin hk (by simp [few18, h1, h2, h3])
    · refine W ?_
      exact fin hk (by simp [few18, h1, h2])
  · refine W ?_
    exact fin hk (by simp [few18, h1])
end Go.Proofs.YtjhmobdncjhcnaaGreatDoor
