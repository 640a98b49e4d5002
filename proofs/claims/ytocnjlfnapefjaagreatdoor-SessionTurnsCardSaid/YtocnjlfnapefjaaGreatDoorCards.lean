/-
  DERIVED. GIVEN WITH THE SEED: THE CARDS: each row of YtocnjlfnapefjaaGreatDoorRows.lean that lists a variable, with what it lists TIED to the program's text (the seventh form; the later family's looks); each row that meets fmt, with fmt's text TOLD by the authors' own Lean function (tested against real Go, not proved from fmt's source: count such statements apart). THE CARD IS WHAT COUNTS. Prove the row's statement (the work); the ties are given (YtocnjlfnapefjaaGreatDoorTie.lean); close each card by the builder's one call (the guide's Derived/Test/ToyasCard.lean, 'card_holds'). Laid BY PROGRAM, IN A SANDBOX (cutbox-door.mjs). By AI agents, Wed Nov 11 2026. No macro, syntax, notation, axiom, sorry.
-/
import Derived.Test.YtocnjlfnapefjaaGreatDoorRows
import GoSem.ClaimSeven
namespace Go.Proofs.YtocnjlfnapefjaaGreatDoor
namespace Rows

/-- THE TIED CARD OF 'vinerylaw14.SessionHolds'. -/
def sessionHoldsCard : Claim7 := { stood := { row := sessionHoldsRow, standIns := [], harness := (true, "26bc5c136f555dc949fe54d0585f67c4a7171767507eef581f76b08b01500374"), looks := false }, kinds := [], alts := [], laidByText := true, laidKinds := [.data, .data, .data, .data, .pinned], laidTests := true, laidLooks := .later }
def SessionHoldsCardSaid : Prop := Claim7.holds Tryz.pinned (.plain (OpenSpec.ofChange sessionHoldsSpec)) sessionHoldsCard

/-- THE TIED CARD OF 'vinerylaw14.SessionStops'. -/
def sessionStopsCard : Claim7 := { stood := { row := sessionStopsRow, standIns := [], harness := (true, "26bc5c136f555dc949fe54d0585f67c4a7171767507eef581f76b08b01500374"), looks := false }, kinds := [], alts := [], laidByText := true, laidKinds := [.data, .data, .data, .data, .pinned], laidTests := true, laidLooks := .later }
def SessionStopsCardSaid : Prop := Claim7.holds Tryz.pinned (.plain (OpenSpec.ofChange sessionStopsSpec)) sessionStopsCard

/-- THE TIED CARD OF 'vinerylaw14.SessionAgrees'. -/
def sessionAgreesCard : Claim7 := { stood := { row := sessionAgreesRow, standIns := [], harness := (true, "26bc5c136f555dc949fe54d0585f67c4a7171767507eef581f76b08b01500374"), looks := false }, kinds := [], alts := [], laidByText := true, laidKinds := [.data, .data, .data, .data, .pinned], laidTests := true, laidLooks := .later }
def SessionAgreesCardSaid : Prop := Claim7.holds Tryz.pinned (.plain (OpenSpec.ofChange sessionAgreesSpec)) sessionAgreesCard

/-- THE TIED CARD OF 'vinerylaw14.SessionTurns'. -/
def sessionTurnsCard : Claim7 := { stood := { row := sessionTurnsRow, standIns := [], harness := (true, "26bc5c136f555dc949fe54d0585f67c4a7171767507eef581f76b08b01500374"), looks := false }, kinds := [], alts := [], laidByText := true, laidKinds := [.data, .data, .data, .data, .pinned], laidTests := true, laidLooks := .later }
def SessionTurnsCardSaid : Prop := Claim7.holds Tryz.pinned (.plain (OpenSpec.ofChange sessionTurnsSpec)) sessionTurnsCard

/-- THE SECOND FORM's CARD OF 'vinerylaw14.SessionHolds'. -/
def sessionHoldsUptoCard : Claim7 := { stood := { row := sessionHoldsUptoRow, standIns := [], harness := (true, "26bc5c136f555dc949fe54d0585f67c4a7171767507eef581f76b08b01500374"), looks := false }, kinds := [], alts := [], laidByText := true, laidKinds := [.data, .data, .data, .data, .pinned], laidTests := true, laidLooks := .later }
def SessionHoldsUptoCardSaid : Prop := Claim7.holds Tryz.pinned (.plain (OpenSpec.upto sessionHoldsSpec)) sessionHoldsUptoCard

/-- THE SECOND FORM's CARD OF 'vinerylaw14.SessionStops'. -/
def sessionStopsUptoCard : Claim7 := { stood := { row := sessionStopsUptoRow, standIns := [], harness := (true, "26bc5c136f555dc949fe54d0585f67c4a7171767507eef581f76b08b01500374"), looks := false }, kinds := [], alts := [], laidByText := true, laidKinds := [.data, .data, .data, .data, .pinned], laidTests := true, laidLooks := .later }
def SessionStopsUptoCardSaid : Prop := Claim7.holds Tryz.pinned (.plain (OpenSpec.upto sessionStopsSpec)) sessionStopsUptoCard

/-- THE SECOND FORM's CARD OF 'vinerylaw14.SessionAgrees'. -/
def sessionAgreesUptoCard : Claim7 := { stood := { row := sessionAgreesUptoRow, standIns := [], harness := (true, "26bc5c136f555dc949fe54d0585f67c4a7171767507eef581f76b08b01500374"), looks := false }, kinds := [], alts := [], laidByText := true, laidKinds := [.data, .data, .data, .data, .pinned], laidTests := true, laidLooks := .later }
def SessionAgreesUptoCardSaid : Prop := Claim7.holds Tryz.pinned (.plain (OpenSpec.upto sessionAgreesSpec)) sessionAgreesUptoCard

/-- THE SECOND FORM's CARD OF 'vinerylaw14.SessionTurns'. -/
def sessionTurnsUptoCard : Claim7 := { stood := { row := sessionTurnsUptoRow, standIns := [], harness := (true, "26bc5c136f555dc949fe54d0585f67c4a7171767507eef581f76b08b01500374"), looks := false }, kinds := [], alts := [], laidByText := true, laidKinds := [.data, .data, .data, .data, .pinned], laidTests := true, laidLooks := .later }
def SessionTurnsUptoCardSaid : Prop := Claim7.holds Tryz.pinned (.plain (OpenSpec.upto sessionTurnsSpec)) sessionTurnsUptoCard
end Rows
end Go.Proofs.YtocnjlfnapefjaaGreatDoor
