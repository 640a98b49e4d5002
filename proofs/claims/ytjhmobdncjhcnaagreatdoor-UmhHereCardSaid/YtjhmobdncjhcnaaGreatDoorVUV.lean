/- Tables as arguments. -/
import Derived.Test.YtjhmobdncjhcnaaGreatDoorVU0
import Derived.Test.YtjhmobdncjhcnaaGreatDoorR20
namespace Go.Proofs.YtjhmobdncjhcnaaGreatDoor
open Go Go.V
set_option maxRecDepth 100000
def shE : List Sh := List.replicate 8 (.int .u8)
def shVr : List Sh := [.str] ++ ([.int .i64] ++ (shE ++ ([.sl shE] ++ ([.sl shE] ++ (shA ++ [.sl shA])))))
theorem fits_Vr {cs : List PV} (h : FitsL shVr cs) : ∃ v : Vr, cs = vrC v ∧ okVrf v := by
  obtain ⟨c1, q, rfl, h1, kk1⟩ := fits_1 h
  obtain ⟨c2, q, rfl, h2, kk2⟩ := fits_1 kk1
  obtain ⟨p, q, rfl, h3, kk3⟩ := fits_split kk2
  obtain ⟨rd, rfl, hrd⟩ := fits_E h3
  obtain ⟨c4, q, rfl, h4, kk4⟩ := fits_1 kk3
  obtain ⟨c5, q, rfl, h5, kk5⟩ := fits_1 kk4
  obtain ⟨p, q, rfl, h6, kk6⟩ := fits_split kk5
  obtain ⟨rp, rfl, hrp⟩ := fits_A h6
  obtain ⟨c7, q, rfl, h7, kk7⟩ := fits_one kk6
  obtain rfl := fits_nil kk7
  obtain ⟨e4, rfl, _, hes4⟩ := fits_sl h4
  obtain ⟨im, rfl, him⟩ := fits_list (c := u8c) (ok := fun e => e.length = 8) (fun e he => fits_E he) hes4
  obtain ⟨e5, rfl, _, hes5⟩ := fits_sl h5
  obtain ⟨ex, rfl, hex⟩ := fits_list (c := u8c) (ok := fun e => e.length = 8) (fun e he => fits_E he) hes5
  obtain ⟨e7, rfl, _, hes7⟩ := fits_sl h7
  obtain ⟨se, rfl, hse⟩ := fits_list (c := adc) (ok := okD) (fun e he => fits_A he) hes7
  cases h1 with
  | str s hs =>
    cases h2 with
    | int _ n _ => exact ⟨⟨s, n, rd, im, ex, rp, se⟩, rfl, ⟨⟨hrd, hrp⟩, Nat.le_trans hs (by decide), him, hex, hse⟩⟩
theorem fits_Vrs {x : PV} (h : Fits (.sl shVr) x) : ∃ l : List Vr, x = .sl (l.map vrC) ∧ ∀ v, v ∈ l → okVrf v := by
  obtain ⟨es, rfl, _, hes⟩ := fits_sl h
  obtain ⟨l, rfl, hl⟩ := fits_list (c := vrC) (ok := okVrf) (fun e he => fits_Vr he) hes
  exact ⟨l, rfl, hl⟩
end Go.Proofs.YtjhmobdncjhcnaaGreatDoor
