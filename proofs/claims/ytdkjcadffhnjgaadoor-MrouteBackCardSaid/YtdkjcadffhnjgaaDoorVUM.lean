/- A multicast route, an address as arguments. -/
import Derived.Test.YtdkjcadffhnjgaaDoorVU
import Derived.Test.YtdkjcadffhnjgaaDoorM2
namespace Go.Proofs.YtdkjcadffhnjgaaDoor
open Go Go.V
set_option maxRecDepth 100000
def shA : List Sh := .int .i64 :: List.replicate 16 (.int .u8)
theorem fits_A {cs : List PV} (h : FitsL shA cs) : ∃ a, cs = adc a ∧ okD a ∧ -9223372036854775808 ≤ a.s ∧ a.s ≤ 9223372036854775807 := by
  obtain ⟨c, r, rfl, h3, h4⟩ := fits_one h
  obtain ⟨b, hb, rfl⟩ := fits_bytes 16 h4
  cases h3 with
  | int _ s ws =>
    have w1 := wf_i64 ws
    exact ⟨⟨s, b⟩, by simp [adc, adr, u8c], hb, w1.1, w1.2⟩
def shM : List Sh := [.int .i64] ++ (List.replicate 8 (.int .u8) ++ ([.int .i64] ++ (shA ++ (shA ++ (shA ++ [.str])))))
theorem fits_M {cs : List PV} (h : FitsL shM cs) : ∃ m, cs = mrc m ∧ okM m ∧ m.key.length ≤ maxLen := by
  obtain ⟨p, q, rfl, h1, h2⟩ := fits_split h
  obtain ⟨c, r, rfl, h3, h4⟩ := fits_one h1
  obtain rfl := fits_nil h4
  obtain ⟨p, q, rfl, h5, h6⟩ := fits_split h2
  obtain ⟨rd, hrd, rfl⟩ := fits_bytes 8 h5
  obtain ⟨p, q, rfl, h7, h8⟩ := fits_split h6
  obtain ⟨d, r, rfl, h9, hA⟩ := fits_one h7
  obtain rfl := fits_nil hA
  obtain ⟨p, q, rfl, hB, hC⟩ := fits_split h8
  obtain ⟨s, rfl, hs, _⟩ := fits_A hB
  obtain ⟨p, q, rfl, hD, hE⟩ := fits_split hC
  obtain ⟨g, rfl, hg, _⟩ := fits_A hD
  obtain ⟨p, q, rfl, hF, hG⟩ := fits_split hE
  obtain ⟨f, rfl, hf, _⟩ := fits_A hF
  obtain ⟨e, r, rfl, hH, hI⟩ := fits_one hG
  obtain rfl := fits_nil hI
  cases h3 with
  | int _ k wk =>
    cases h9 with
    | int _ a wa =>
      cases hH with
      | str key hk =>
        exact ⟨⟨k, rd, a, s, g, f, key⟩, by simp [mrc, u8c], ⟨hrd, hs, hg, hf⟩, hk⟩
end Go.Proofs.YtdkjcadffhnjgaaDoor
