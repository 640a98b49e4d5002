/-
  DERIVED. GIVEN WITH THE SEED: THE CARDS: each row of YtdkjcadffhnjgaaDoorRows.lean that lists a variable, with what it lists TIED to the program's text (the seventh form; the later family's looks); each row that meets fmt, with fmt's text TOLD by the authors' own Lean function (tested against real Go, not proved from fmt's source: count such statements apart). THE CARD IS WHAT COUNTS. Prove the row's statement (the work); the ties are given (YtdkjcadffhnjgaaDoorTie.lean); close each card by the builder's one call (the guide's Derived/Test/ToyasCard.lean, 'card_holds'). Laid BY PROGRAM, IN A SANDBOX (cutbox-door.mjs). By AI agents, Wed Nov 11 2026. No macro, syntax, notation, axiom, sorry.
-/
import Derived.Test.YtdkjcadffhnjgaaDoorRows
import GoSem.ClaimSeven
namespace Go.Proofs.YtdkjcadffhnjgaaDoor
namespace Rows

/-- THE TIED CARD OF 'vinerylaw08.UrouteCodes'. -/
def urouteCodesCard : Claim7 := { stood := { row := urouteCodesRow, standIns := [], harness := (true, "5dce983d85b3fbb8b14a2f284bb97538e5b4fed0941cdae1482a3fe421f86cee"), looks := false }, kinds := [], alts := [], laidByText := true, laidKinds := [.data, .data, .data, .data, .pinned], laidTests := true, laidLooks := .later }
def UrouteCodesCardSaid : Prop := Claim7.holds Tryd.pinned (.plain (OpenSpec.ofChange urouteCodesSpec)) urouteCodesCard

/-- THE TIED CARD OF 'vinerylaw08.UrouteRows'. -/
def urouteRowsCard : Claim7 := { stood := { row := urouteRowsRow, standIns := [], harness := (true, "5dce983d85b3fbb8b14a2f284bb97538e5b4fed0941cdae1482a3fe421f86cee"), looks := false }, kinds := [], alts := [], laidByText := true, laidKinds := [.data, .data, .data, .data, .pinned], laidTests := true, laidLooks := .later }
def UrouteRowsCardSaid : Prop := Claim7.holds Tryd.pinned (.plain (OpenSpec.ofChange urouteRowsSpec)) urouteRowsCard

/-- THE TIED CARD OF 'vinerylaw08.UrouteBack'. -/
def urouteBackCard : Claim7 := { stood := { row := urouteBackRow, standIns := [], harness := (true, "5dce983d85b3fbb8b14a2f284bb97538e5b4fed0941cdae1482a3fe421f86cee"), looks := false }, kinds := [], alts := [], laidByText := true, laidKinds := [.data, .data, .data, .data, .pinned], laidTests := true, laidLooks := .later }
def UrouteBackCardSaid : Prop := Claim7.holds Tryd.pinned (.plain (OpenSpec.ofChange urouteBackSpec)) urouteBackCard

/-- THE TIED CARD OF 'vinerylaw08.UrouteSorts'. -/
def urouteSortsCard : Claim7 := { stood := { row := urouteSortsRow, standIns := [], harness := (true, "5dce983d85b3fbb8b14a2f284bb97538e5b4fed0941cdae1482a3fe421f86cee"), looks := false }, kinds := [], alts := [], laidByText := true, laidKinds := [.data, .data, .data, .data, .pinned], laidTests := true, laidLooks := .later }
def UrouteSortsCardSaid : Prop := Claim7.holds Tryd.pinned (.plain (OpenSpec.ofChange urouteSortsSpec)) urouteSortsCard

/-- THE TIED CARD OF 'vinerylaw08.UrouteLabels'. -/
def urouteLabelsCard : Claim7 := { stood := { row := urouteLabelsRow, standIns := [], harness := (true, "5dce983d85b3fbb8b14a2f284bb97538e5b4fed0941cdae1482a3fe421f86cee"), looks := false }, kinds := [], alts := [], laidByText := true, laidKinds := [.data, .data, .data, .data, .pinned], laidTests := true, laidLooks := .later }
def UrouteLabelsCardSaid : Prop := Claim7.holds Tryd.pinned (.plain (OpenSpec.ofChange urouteLabelsSpec)) urouteLabelsCard

/-- THE TIED CARD OF 'vinerylaw07.MrouteLeaves'. -/
def mrouteLeavesCard : Claim7 := { stood := { row := mrouteLeavesRow, standIns := [], harness := (true, "5dce983d85b3fbb8b14a2f284bb97538e5b4fed0941cdae1482a3fe421f86cee"), looks := false }, kinds := [], alts := [], laidByText := true, laidKinds := [.data, .data, .data, .data, .pinned], laidTests := true, laidLooks := .later }
def MrouteLeavesCardSaid : Prop := Claim7.holds Tryd.pinned (.plain (OpenSpec.ofChange mrouteLeavesSpec)) mrouteLeavesCard

/-- THE TIED CARD OF 'vinerylaw07.MrouteApart'. -/
def mrouteApartCard : Claim7 := { stood := { row := mrouteApartRow, standIns := [], harness := (true, "5dce983d85b3fbb8b14a2f284bb97538e5b4fed0941cdae1482a3fe421f86cee"), looks := false }, kinds := [], alts := [], laidByText := true, laidKinds := [.data, .data, .data, .data, .pinned], laidTests := true, laidLooks := .later }
def MrouteApartCardSaid : Prop := Claim7.holds Tryd.pinned (.plain (OpenSpec.ofChange mrouteApartSpec)) mrouteApartCard

/-- THE TIED CARD OF 'vinerylaw07.MrouteBack'. -/
def mrouteBackCard : Claim7 := { stood := { row := mrouteBackRow, standIns := [], harness := (true, "5dce983d85b3fbb8b14a2f284bb97538e5b4fed0941cdae1482a3fe421f86cee"), looks := false }, kinds := [], alts := [], laidByText := true, laidKinds := [.data, .data, .data, .data, .pinned], laidTests := true, laidLooks := .later }
def MrouteBackCardSaid : Prop := Claim7.holds Tryd.pinned (.plain (OpenSpec.ofChange mrouteBackSpec)) mrouteBackCard

/-- THE SECOND FORM's CARD OF 'vinerylaw08.UrouteCodes'. -/
def urouteCodesUptoCard : Claim7 := { stood := { row := urouteCodesUptoRow, standIns := [], harness := (true, "5dce983d85b3fbb8b14a2f284bb97538e5b4fed0941cdae1482a3fe421f86cee"), looks := false }, kinds := [], alts := [], laidByText := true, laidKinds := [.data, .data, .data, .data, .pinned], laidTests := true, laidLooks := .later }
def UrouteCodesUptoCardSaid : Prop := Claim7.holds Tryd.pinned (.plain (OpenSpec.upto urouteCodesSpec)) urouteCodesUptoCard

/-- THE SECOND FORM's CARD OF 'vinerylaw08.UrouteRows'. -/
def urouteRowsUptoCard : Claim7 := { stood := { row := urouteRowsUptoRow, standIns := [], harness := (true, "5dce983d85b3fbb8b14a2f284bb97538e5b4fed0941cdae1482a3fe421f86cee"), looks := false }, kinds := [], alts := [], laidByText := true, laidKinds := [.data, .data, .data, .data, .pinned], laidTests := true, laidLooks := .later }
def UrouteRowsUptoCardSaid : Prop := Claim7.holds Tryd.pinned (.plain (OpenSpec.upto urouteRowsSpec)) urouteRowsUptoCard

/-- THE SECOND FORM's CARD OF 'vinerylaw08.UrouteBack'. -/
def urouteBackUptoCard : Claim7 := { stood := { row := urouteBackUptoRow, standIns := [], harness := (true, "5dce983d85b3fbb8b14a2f284bb97538e5b4fed0941cdae1482a3fe421f86cee"), looks := false }, kinds := [], alts := [], laidByText := true, laidKinds := [.data, .data, .data, .data, .pinned], laidTests := true, laidLooks := .later }
def UrouteBackUptoCardSaid : Prop := Claim7.holds Tryd.pinned (.plain (OpenSpec.upto urouteBackSpec)) urouteBackUptoCard

/-- THE SECOND FORM's CARD OF 'vinerylaw08.UrouteSorts'. -/
def urouteSortsUptoCard : Claim7 := { stood := { row := urouteSortsUptoRow, standIns := [], harness := (true, "5dce983d85b3fbb8b14a2f284bb97538e5b4fed0941cdae1482a3fe421f86cee"), looks := false }, kinds := [], alts := [], laidByText := true, laidKinds := [.data, .data, .data, .data, .pinned], laidTests := true, laidLooks := .later }
def UrouteSortsUptoCardSaid : Prop := Claim7.holds Tryd.pinned (.plain (OpenSpec.upto urouteSortsSpec)) urouteSortsUptoCard

/-- THE SECOND FORM's CARD OF 'vinerylaw08.UrouteLabels'. -/
def urouteLabelsUptoCard : Claim7 := { stood := { row := urouteLabelsUptoRow, standIns := [], harness := (true, "5dce983d85b3fbb8b14a2f284bb97538e5b4fed0941cdae1482a3fe421f86cee"), looks := false }, kinds := [], alts := [], laidByText := true, laidKinds := [.data, .data, .data, .data, .pinned], laidTests := true, laidLooks := .later }
def UrouteLabelsUptoCardSaid : Prop := Claim7.holds Tryd.pinned (.plain (OpenSpec.upto urouteLabelsSpec)) urouteLabelsUptoCard

/-- THE SECOND FORM's CARD OF 'vinerylaw07.MrouteLeaves'. -/
def mrouteLeavesUptoCard : Claim7 := { stood := { row := mrouteLeavesUptoRow, standIns := [], harness := (true, "5dce983d85b3fbb8b14a2f284bb97538e5b4fed0941cdae1482a3fe421f86cee"), looks := false }, kinds := [], alts := [], laidByText := true, laidKinds := [.data, .data, .data, .data, .pinned], laidTests := true, laidLooks := .later }
def MrouteLeavesUptoCardSaid : Prop := Claim7.holds Tryd.pinned (.plain (OpenSpec.upto mrouteLeavesSpec)) mrouteLeavesUptoCard

/-- THE SECOND FORM's CARD OF 'vinerylaw07.MrouteApart'. -/
def mrouteApartUptoCard : Claim7 := { stood := { row := mrouteApartUptoRow, standIns := [], harness := (true, "5dce983d85b3fbb8b14a2f284bb97538e5b4fed0941cdae1482a3fe421f86cee"), looks := false }, kinds := [], alts := [], laidByText := true, laidKinds := [.data, .data, .data, .data, .pinned], laidTests := true, laidLooks := .later }
def MrouteApartUptoCardSaid : Prop := Claim7.holds Tryd.pinned (.plain (OpenSpec.upto mrouteApartSpec)) mrouteApartUptoCard

/-- THE SECOND FORM's CARD OF 'vinerylaw07.MrouteBack'. -/
def mrouteBackUptoCard : Claim7 := { stood := { row := mrouteBackUptoRow, standIns := [], harness := (true, "5dce983d85b3fbb8b14a2f284bb97538e5b4fed0941cdae1482a3fe421f86cee"), looks := false }, kinds := [], alts := [], laidByText := true, laidKinds := [.data, .data, .data, .data, .pinned], laidTests := true, laidLooks := .later }
def MrouteBackUptoCardSaid : Prop := Claim7.holds Tryd.pinned (.plain (OpenSpec.upto mrouteBackSpec)) mrouteBackUptoCard
end Rows
end Go.Proofs.YtdkjcadffhnjgaaDoor
