/-
  DERIVED. GIVEN WITH THE SEED: THE CARDS: each row of YtdpeaefgbmkegaaGreatDoorRows.lean that lists a variable, with what it lists TIED to the program's text (the seventh form; the later family's looks); each row that meets fmt, with fmt's text TOLD by the authors' own Lean function (tested against real Go, not proved from fmt's source: count such statements apart). THE CARD IS WHAT COUNTS. Prove the row's statement (the work); the ties are given (YtdpeaefgbmkegaaGreatDoorTie.lean); close each card by the builder's one call (the guide's Derived/Test/ToyasCard.lean, 'card_holds'). Laid BY PROGRAM, IN A SANDBOX (cutbox-door.mjs). By AI agents, Wed Nov 11 2026. No macro, syntax, notation, axiom, sorry.
-/
import Derived.Test.YtdpeaefgbmkegaaGreatDoorRows
import GoSem.ClaimSeven
namespace Go.Proofs.YtdpeaefgbmkegaaGreatDoor
namespace Rows

/-- THE TIED CARD OF 'vinerylaw17.RelayTakes'. -/
def relayTakesCard : Claim7 := { stood := { row := relayTakesRow, standIns := [], harness := (true, "b7d686801860f1202b833460bee2d86e0e1970edaa18410fadc2c02f36340070"), looks := false }, kinds := [], alts := [], laidByText := true, laidKinds := [.data, .data, .data, .data, .pinned], laidTests := true, laidLooks := .later }
def RelayTakesCardSaid : Prop := Claim7.holds Tryz.pinned (.plain (OpenSpec.ofChange relayTakesSpec)) relayTakesCard

/-- THE TIED CARD OF 'vinerylaw18.VrfReaches'. -/
def vrfReachesCard : Claim7 := { stood := { row := vrfReachesRow, standIns := [], harness := (true, "b7d686801860f1202b833460bee2d86e0e1970edaa18410fadc2c02f36340070"), looks := false }, kinds := [], alts := [], laidByText := true, laidKinds := [.data, .data, .data, .data, .pinned], laidTests := true, laidLooks := .later }
def VrfReachesCardSaid : Prop := Claim7.holds Tryz.pinned (.plain (OpenSpec.ofChange vrfReachesSpec)) vrfReachesCard

/-- THE TIED CARD OF 'vinerylaw18.VrfTakes'. -/
def vrfTakesCard : Claim7 := { stood := { row := vrfTakesRow, standIns := [], harness := (true, "b7d686801860f1202b833460bee2d86e0e1970edaa18410fadc2c02f36340070"), looks := false }, kinds := [], alts := [], laidByText := true, laidKinds := [.data, .data, .data, .data, .pinned], laidTests := true, laidLooks := .later }
def VrfTakesCardSaid : Prop := Claim7.holds Tryz.pinned (.plain (OpenSpec.ofChange vrfTakesSpec)) vrfTakesCard

/-- THE TIED CARD OF 'vinerylaw19.UmhOrders'. -/
def umhOrdersCard : Claim7 := { stood := { row := umhOrdersRow, standIns := [], harness := (true, "b7d686801860f1202b833460bee2d86e0e1970edaa18410fadc2c02f36340070"), looks := false }, kinds := [], alts := [], laidByText := true, laidKinds := [.data, .data, .data, .data, .pinned], laidTests := true, laidLooks := .later }
def UmhOrdersCardSaid : Prop := Claim7.holds Tryz.pinned (.plain (OpenSpec.ofChange umhOrdersSpec)) umhOrdersCard

/-- THE SECOND FORM's CARD OF 'vinerylaw17.RelayTakes'. -/
def relayTakesUptoCard : Claim7 := { stood := { row := relayTakesUptoRow, standIns := [], harness := (true, "b7d686801860f1202b833460bee2d86e0e1970edaa18410fadc2c02f36340070"), looks := false }, kinds := [], alts := [], laidByText := true, laidKinds := [.data, .data, .data, .data, .pinned], laidTests := true, laidLooks := .later }
def RelayTakesUptoCardSaid : Prop := Claim7.holds Tryz.pinned (.plain (OpenSpec.upto relayTakesSpec)) relayTakesUptoCard

/-- THE SECOND FORM's CARD OF 'vinerylaw18.VrfReaches'. -/
def vrfReachesUptoCard : Claim7 := { stood := { row := vrfReachesUptoRow, standIns := [], harness := (true, "b7d686801860f1202b833460bee2d86e0e1970edaa18410fadc2c02f36340070"), looks := false }, kinds := [], alts := [], laidByText := true, laidKinds := [.data, .data, .data, .data, .pinned], laidTests := true, laidLooks := .later }
def VrfReachesUptoCardSaid : Prop := Claim7.holds Tryz.pinned (.plain (OpenSpec.upto vrfReachesSpec)) vrfReachesUptoCard

/-- THE SECOND FORM's CARD OF 'vinerylaw18.VrfTakes'. -/
def vrfTakesUptoCard : Claim7 := { stood := { row := vrfTakesUptoRow, standIns := [], harness := (true, "b7d686801860f1202b833460bee2d86e0e1970edaa18410fadc2c02f36340070"), looks := false }, kinds := [], alts := [], laidByText := true, laidKinds := [.data, .data, .data, .data, .pinned], laidTests := true, laidLooks := .later }
def VrfTakesUptoCardSaid : Prop := Claim7.holds Tryz.pinned (.plain (OpenSpec.upto vrfTakesSpec)) vrfTakesUptoCard

/-- THE SECOND FORM's CARD OF 'vinerylaw19.UmhOrders'. -/
def umhOrdersUptoCard : Claim7 := { stood := { row := umhOrdersUptoRow, standIns := [], harness := (true, "b7d686801860f1202b833460bee2d86e0e1970edaa18410fadc2c02f36340070"), looks := false }, kinds := [], alts := [], laidByText := true, laidKinds := [.data, .data, .data, .data, .pinned], laidTests := true, laidLooks := .later }
def UmhOrdersUptoCardSaid : Prop := Claim7.holds Tryz.pinned (.plain (OpenSpec.upto umhOrdersSpec)) umhOrdersUptoCard
end Rows
end Go.Proofs.YtdpeaefgbmkegaaGreatDoor
