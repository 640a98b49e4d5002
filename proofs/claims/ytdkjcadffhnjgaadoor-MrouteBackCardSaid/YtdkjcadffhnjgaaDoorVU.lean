/- The seat's frame: the tables that the rows list; a route as an argument. -/
import Derived.Test.YtdkjcadffhnjgaaDoorRows
import Derived.Test.YtdkjcadffhnjgaaDoorVZ
import Derived.Stop.LaidErr
import Derived.Test.YtdkjcadffhnjgaaDoorED
import Derived.Test.YtdkjcadffhnjgaaDoorGC
namespace Go.Proofs.YtdkjcadffhnjgaaDoor
open Go Go.V
set_option maxRecDepth 100000
def laidL : List (String × DataW Unit) := [("math/bits.deBruijn32tab", Rows.laid_math_bits_deBruijn32tab), ("math/bits.deBruijn64tab", Rows.laid_math_bits_deBruijn64tab), ("internal/strconv.uint64pow10", Rows.laid_internal_strconv_uint64pow10), ("unicode/utf8.acceptRanges", Rows.laid_unicode_utf8_acceptRanges), ("unicode/utf8.first", Rows.laid_unicode_utf8_first)]
def z32 : List Int := [0, 1, 28, 2, 29, 14, 24, 3, 30, 22, 20, 15, 25, 17, 4, 8, 31, 27, 13, 23, 21, 19, 16, 7, 26, 12, 18, 6, 11, 5, 10, 9]
def z64 : List Int := [0, 1, 56, 2, 57, 49, 28, 3, 61, 58, 42, 50, 38, 29, 17, 4, 62, 47, 59, 36, 45, 43, 51, 22, 53, 39, 33, 30, 24, 18, 12, 5, 63, 55, 48, 27, 60, 41, 37, 16, 46, 35, 44, 21, 52, 32, 23, 11, 54, 26, 40, 15, 34, 20, 31, 10, 25, 14, 19, 9, 13, 8, 7, 6]
def zpow : List Int := [1, 10, 100, 1000, 10000, 100000, 1000000, 10000000, 100000000, 1000000000, 10000000000, 100000000000, 1000000000000, 10000000000000, 100000000000000, 1000000000000000, 10000000000000000, 100000000000000000, 1000000000000000000, 10000000000000000000]
theorem glo {W : World} (hL : laidMetH Tryd.prog laidL W) (β : Beta) : GloRep W [] β := by
  rw [MakeChecks.laidMetH_plain _ _ _ (by kernel_rfl)] at hL
  have t1 := Lib.tabIs_of_head (P := Tryd.prog) (k := .u8) (zs := z32) (g := 4) (by kernel_rfl) (show _ = some 183 by kernel_rfl) Tryd.underlying183 Tryd.underlying5 (by kernel_rfl) (by kernel_rfl) hL
  have hL1 := hL.tail
  have t2 := Lib.tabIs_of_head (P := Tryd.prog) (k := .u8) (zs := z64) (g := 5) (by kernel_rfl) (show _ = some 184 by kernel_rfl) Tryd.underlying184 Tryd.underlying5 (by kernel_rfl) (by kernel_rfl) hL1
  have hL2 := hL1.tail
  have t3 := Lib.tabIs_of_head (P := Tryd.prog) (k := .u64) (zs := zpow) (g := 1) (by kernel_rfl) (show _ = some 174 by kernel_rfl) Tryd.underlying174 Tryd.underlying161 (by kernel_rfl) (by kernel_rfl) hL2
  intro g cells h
  have e : g = 1 ∧ cells = gt1 ∨ g = 4 ∧ cells = gt4 ∨ g = 5 ∧ cells = gt5 := by
    simp only [Glob.tab] at h
    split at h
    · cases h; exact .inl ⟨rfl, rfl⟩
    · cases h; exact .inr (.inl ⟨rfl, rfl⟩)
    · cases h; exact .inr (.inr ⟨rfl, rfl⟩)
    · cases h
  rcases e with ⟨rfl, rfl⟩ | ⟨rfl, rfl⟩ | ⟨rfl, rfl⟩
  · exact gloOf (by kernel_rfl) t3 rfl
  · exact gloOf (by kernel_rfl) t1 rfl
  · exact gloOf (by kernel_rfl) t2 rfl
def shU : List Sh := List.replicate 8 (.int .u8) ++ (.int .i64 :: (List.replicate 16 (.int .u8) ++ [.int .i64, .int .i64]))
/-- A route that came in. -/
theorem fits_U {cs : List PV} (h : FitsL shU cs) : ∃ x a, cs = nmU x a ∧ okN x ∧ -9223372036854775808 ≤ a ∧ a ≤ 9223372036854775807 ∧ -9223372036854775808 ≤ x.k ∧ x.k ≤ 9223372036854775807 ∧ -9223372036854775808 ≤ x.s ∧ x.s ≤ 9223372036854775807 := by
  obtain ⟨p, q, rfl, h1, h2⟩ := fits_split h
  obtain ⟨rd, hrd, rfl⟩ := fits_bytes 8 h1
  obtain ⟨c, r, rfl, h3, h4⟩ := fits_one h2
  obtain ⟨p, q, rfl, h5, h6⟩ := fits_split h4
  obtain ⟨b, hb, rfl⟩ := fits_bytes 16 h5
  obtain ⟨d, r, rfl, h7, h8⟩ := fits_one h6
  obtain ⟨f, r, rfl, h9, h10⟩ := fits_one h8
  obtain rfl := fits_nil h10
  cases h3 with
  | int _ s ws =>
    cases h7 with
    | int _ k wk =>
      cases h9 with
      | int _ a wa =>
        have w1 := wf_i64 ws
        have w2 := wf_i64 wk
        have w3 := wf_i64 wa
        exact ⟨⟨rd, s, b, k⟩, a, by simp [nmU, urc, pfx, adr, u8c], ⟨hrd, hb⟩, w3.1, w3.2, w2.1, w2.2, w1.1, w1.2⟩
end Go.Proofs.YtdkjcadffhnjgaaDoor
