/- Choices and what Tells is asked, as arguments. -/
import Derived.Test.YtjhmobdncjhcnaaGreatDoorVU0
import Derived.Test.YtjhmobdncjhcnaaGreatDoorR14
namespace Go.Proofs.YtjhmobdncjhcnaaGreatDoor
open Go Go.V
set_option maxRecDepth 100000
def shCh : List Sh := shRt ++ ([.int .i64] ++ shA)
theorem fits_Ch {cs : List PV} (h : FitsL shCh cs) : ∃ c : Ch, cs = chC c ∧ okCh c ∧ okArg c.route := by
  obtain ⟨p, q, rfl, h1, kk1⟩ := fits_split h
  obtain ⟨r, rfl, hr⟩ := fits_Rt h1
  obtain ⟨c2, q, rfl, h2, kk2⟩ := fits_1 kk1
  obtain ⟨a, rfl, ha⟩ := fits_A kk2
  cases h2 with
  | int _ n _ => exact ⟨⟨r, n, a⟩, rfl, ⟨hr.ok, ha⟩, hr⟩
def shAsk : List Sh := shA ++ ([.bool] ++ (shCh ++ ([.int .i64] ++ ([.int .i64] ++ ([.int .i64] ++ shA)))))
theorem fits_Ask {cs : List PV} (h : FitsL shAsk cs) : ∃ a : Ask, cs = askC a ∧ okAsk a ∧ okArg a.ch.route := by
  obtain ⟨p, q, rfl, h1, kk1⟩ := fits_split h
  obtain ⟨k, rfl, hk⟩ := fits_A h1
  obtain ⟨c2, q, rfl, h2, kk2⟩ := fits_1 kk1
  obtain ⟨p, q, rfl, h3, kk3⟩ := fits_split kk2
  obtain ⟨c, rfl, hc, hr⟩ := fits_Ch h3
  obtain ⟨c4, q, rfl, h4, kk4⟩ := fits_1 kk3
  obtain ⟨c5, q, rfl, h5, kk5⟩ := fits_1 kk4
  obtain ⟨c6, q, rfl, h6, kk6⟩ := fits_1 kk5
  obtain ⟨o, rfl, ho⟩ := fits_A kk6
  cases h2 with
  | bool b =>
    cases h4 with
    | int _ x _ =>
      cases h5 with
      | int _ y _ =>
        cases h6 with
        | int _ z _ => exact ⟨⟨k, b, c, x, y, z, o⟩, rfl, ⟨hk, hc, ho⟩, hr⟩
end Go.Proofs.YtjhmobdncjhcnaaGreatDoor
