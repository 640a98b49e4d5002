/- Texts of numbers, and their sums: out of the shelf. -/
import Derived.Test.YtdkjcadffhnjgaaDoorShelf
import Derived.Test.YtdkjcadffhnjgaaDoorVT
import Derived.Test.YtdkjcadffhnjgaaDoorG4
namespace Go.Proofs.YtdkjcadffhnjgaaDoor
open Go Go.V
set_option maxRecDepth 10000
theorem laidPow : Tryd.prog.globalNamed "internal/strconv.uint64pow10" = some 1 := by kernel_rfl
theorem uItoa {n : Int} (h0 : -9223372036854775808 ≤ n) (h1 : n ≤ 9223372036854775807) : U Tryd.prog 69 [.int .i64 n] (.str (Lib.itoa n)) := by
  refine U_text fun w σ β vs hs hr hS hG => ?_
  match vs, hs with
  | ⟨[v]⟩, _ =>
  rw [rep_int (hr 0 _ v rfl rfl)]
  refine (Tryd.strconv_Itoa n h0 h1 w (hG.tab laidPow rfl rfl)).mono ?_
  rintro e w' ⟨rfl, k, os, rfl⟩
  exact ⟨rfl, below_grow w k os⟩
theorem uJoin {ss : List (List UInt8)} {sep : List UInt8} (hN : ss.length ≤ 140737488355328) (hl : (Lib.join ss sep).length ≤ 140737488355328) : U Tryd.prog 73 [.sl (strRow ss), .str sep] (.str (Lib.join ss sep)) :=
  U_join Tryd.strings_Join_none Tryd.strings_Join (fun _ => rfl) hN hl
end Go.Proofs.YtdkjcadffhnjgaaDoor
