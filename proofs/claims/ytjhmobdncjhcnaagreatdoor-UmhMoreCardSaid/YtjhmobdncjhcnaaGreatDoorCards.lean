/-
  DERIVED. GIVEN WITH THE SEED: THE CARDS: each row of YtjhmobdncjhcnaaGreatDoorRows.lean that lists a variable, with what it lists TIED to the program's text (the seventh form; the later family's looks); each row that meets fmt, with fmt's text TOLD by the authors' own Lean function (tested against real Go, not proved from fmt's source: count such statements apart). THE CARD IS WHAT COUNTS. Prove the row's statement (the work); the ties are given (YtjhmobdncjhcnaaGreatDoorTie.lean); close each card by the builder's one call (the guide's Derived/Test/ToyasCard.lean, 'card_holds'). Laid BY PROGRAM, IN A SANDBOX (cutbox-door.mjs). By AI agents, Wed Nov 11 2026. No macro, syntax, notation, axiom, sorry.
-/
import Derived.Test.YtjhmobdncjhcnaaGreatDoorRows
import GoSem.ClaimSeven
namespace Go.Proofs.YtjhmobdncjhcnaaGreatDoor
namespace Rows

/-- THE TIED CARD OF 'vinerylaw17.RelayLoops'. -/
def relayLoopsCard : Claim7 := { stood := { row := relayLoopsRow, standIns := [], harness := (true, "592c4864ae670dba12e218f42ec886e9890109e1112e36c4b579d57abf3f4d24"), looks := true }, kinds := [], alts := [], laidByText := true, laidKinds := [.data, .data, .data, .data, .pinned], laidTests := true, laidLooks := .later }
def RelayLoopsCardSaid : Prop := Claim7.holds Tryz.pinned (.plain (OpenSpec.ofChange relayLoopsSpec)) relayLoopsCard

/-- THE TIED CARD OF 'vinerylaw17.RelayPlain'. -/
def relayPlainCard : Claim7 := { stood := { row := relayPlainRow, standIns := [], harness := (true, "592c4864ae670dba12e218f42ec886e9890109e1112e36c4b579d57abf3f4d24"), looks := true }, kinds := [], alts := [], laidByText := true, laidKinds := [.data, .data, .data, .data, .pinned], laidTests := true, laidLooks := .later }
def RelayPlainCardSaid : Prop := Claim7.holds Tryz.pinned (.plain (OpenSpec.ofChange relayPlainSpec)) relayPlainCard

/-- THE TIED CARD OF 'vinerylaw17.RelayOwn'. -/
def relayOwnCard : Claim7 := { stood := { row := relayOwnRow, standIns := [], harness := (true, "592c4864ae670dba12e218f42ec886e9890109e1112e36c4b579d57abf3f4d24"), looks := true }, kinds := [], alts := [], laidByText := true, laidKinds := [.data, .data, .data, .data, .pinned], laidTests := true, laidLooks := .later }
def RelayOwnCardSaid : Prop := Claim7.holds Tryz.pinned (.plain (OpenSpec.ofChange relayOwnSpec)) relayOwnCard

/-- THE TIED CARD OF 'vinerylaw18.VrfApart'. -/
def vrfApartCard : Claim7 := { stood := { row := vrfApartRow, standIns := [], harness := (true, "592c4864ae670dba12e218f42ec886e9890109e1112e36c4b579d57abf3f4d24"), looks := true }, kinds := [], alts := [], laidByText := true, laidKinds := [.data, .data, .data, .data, .pinned], laidTests := true, laidLooks := .later }
def VrfApartCardSaid : Prop := Claim7.holds Tryz.pinned (.plain (OpenSpec.ofChange vrfApartSpec)) vrfApartCard

/-- THE TIED CARD OF 'vinerylaw18.VrfOthers'. -/
def vrfOthersCard : Claim7 := { stood := { row := vrfOthersRow, standIns := [], harness := (true, "592c4864ae670dba12e218f42ec886e9890109e1112e36c4b579d57abf3f4d24"), looks := true }, kinds := [], alts := [], laidByText := true, laidKinds := [.data, .data, .data, .data, .pinned], laidTests := true, laidLooks := .later }
def VrfOthersCardSaid : Prop := Claim7.holds Tryz.pinned (.plain (OpenSpec.ofChange vrfOthersSpec)) vrfOthersCard

/-- THE TIED CARD OF 'vinerylaw19.UmhMore'. -/
def umhMoreCard : Claim7 := { stood := { row := umhMoreRow, standIns := [], harness := (true, "592c4864ae670dba12e218f42ec886e9890109e1112e36c4b579d57abf3f4d24"), looks := true }, kinds := [], alts := [], laidByText := true, laidKinds := [.data, .data, .data, .data, .pinned], laidTests := true, laidLooks := .later }
def UmhMoreCardSaid : Prop := Claim7.holds Tryz.pinned (.plain (OpenSpec.ofChange umhMoreSpec)) umhMoreCard

/-- THE TIED CARD OF 'vinerylaw19.UmhHere'. -/
def umhHereCard : Claim7 := { stood := { row := umhHereRow, standIns := [], harness := (true, "592c4864ae670dba12e218f42ec886e9890109e1112e36c4b579d57abf3f4d24"), looks := true }, kinds := [], alts := [], laidByText := true, laidKinds := [.data, .data, .data, .data, .pinned], laidTests := true, laidLooks := .later }
def UmhHereCardSaid : Prop := Claim7.holds Tryz.pinned (.plain (OpenSpec.ofChange umhHereSpec)) umhHereCard

/-- THE TIED CARD OF 'vinerylaw15.RibApart'. -/
def ribApartCard : Claim7 := { stood := { row := ribApartRow, standIns := [], harness := (true, "592c4864ae670dba12e218f42ec886e9890109e1112e36c4b579d57abf3f4d24"), looks := true }, kinds := [], alts := [], laidByText := true, laidKinds := [.data, .data, .data, .data, .pinned], laidTests := true, laidLooks := .later }
def RibApartCardSaid : Prop := Claim7.holds Tryz.pinned (.plain (OpenSpec.ofChange ribApartSpec)) ribApartCard

/-- THE SECOND FORM's CARD OF 'vinerylaw17.RelayLoops'. -/
def relayLoopsUptoCard : Claim7 := { stood := { row := relayLoopsUptoRow, standIns := [], harness := (true, "592c4864ae670dba12e218f42ec886e9890109e1112e36c4b579d57abf3f4d24"), looks := true }, kinds := [], alts := [], laidByText := true, laidKinds := [.data, .data, .data, .data, .pinned], laidTests := true, laidLooks := .later }
def RelayLoopsUptoCardSaid : Prop := Claim7.holds Tryz.pinned (.plain (OpenSpec.upto relayLoopsSpec)) relayLoopsUptoCard

/-- THE SECOND FORM's CARD OF 'vinerylaw17.RelayPlain'. -/
def relayPlainUptoCard : Claim7 := { stood := { row := relayPlainUptoRow, standIns := [], harness := (true, "592c4864ae670dba12e218f42ec886e9890109e1112e36c4b579d57abf3f4d24"), looks := true }, kinds := [], alts := [], laidByText := true, laidKinds := [.data, .data, .data, .data, .pinned], laidTests := true, laidLooks := .later }
def RelayPlainUptoCardSaid : Prop := Claim7.holds Tryz.pinned (.plain (OpenSpec.upto relayPlainSpec)) relayPlainUptoCard

/-- THE SECOND FORM's CARD OF 'vinerylaw17.RelayOwn'. -/
def relayOwnUptoCard : Claim7 := { stood := { row := relayOwnUptoRow, standIns := [], harness := (true, "592c4864ae670dba12e218f42ec886e9890109e1112e36c4b579d57abf3f4d24"), looks := true }, kinds := [], alts := [], laidByText := true, laidKinds := [.data, .data, .data, .data, .pinned], laidTests := true, laidLooks := .later }
def RelayOwnUptoCardSaid : Prop := Claim7.holds Tryz.pinned (.plain (OpenSpec.upto relayOwnSpec)) relayOwnUptoCard

/-- THE SECOND FORM's CARD OF 'vinerylaw18.VrfApart'. -/
def vrfApartUptoCard : Claim7 := { stood := { row := vrfApartUptoRow, standIns := [], harness := (true, "592c4864ae670dba12e218f42ec886e9890109e1112e36c4b579d57abf3f4d24"), looks := true }, kinds := [], alts := [], laidByText := true, laidKinds := [.data, .data, .data, .data, .pinned], laidTests := true, laidLooks := .later }
def VrfApartUptoCardSaid : Prop := Claim7.holds Tryz.pinned (.plain (OpenSpec.upto vrfApartSpec)) vrfApartUptoCard

/-- THE SECOND FORM's CARD OF 'vinerylaw18.VrfOthers'. -/
def vrfOthersUptoCard : Claim7 := { stood := { row := vrfOthersUptoRow, standIns := [], harness := (true, "592c4864ae670dba12e218f42ec886e9890109e1112e36c4b579d57abf3f4d24"), looks := true }, kinds := [], alts := [], laidByText := true, laidKinds := [.data, .data, .data, .data, .pinned], laidTests := true, laidLooks := .later }
def VrfOthersUptoCardSaid : Prop := Claim7.holds Tryz.pinned (.plain (OpenSpec.upto vrfOthersSpec)) vrfOthersUptoCard

/-- THE SECOND FORM's CARD OF 'vinerylaw19.UmhMore'. -/
def umhMoreUptoCard : Claim7 := { stood := { row := umhMoreUptoRow, standIns := [], harness := (true, "592c4864ae670dba12e218f42ec886e9890109e1112e36c4b579d57abf3f4d24"), looks := true }, kinds := [], alts := [], laidByText := true, laidKinds := [.data, .data, .data, .data, .pinned], laidTests := true, laidLooks := .later }
def UmhMoreUptoCardSaid : Prop := Claim7.holds Tryz.pinned (.plain (OpenSpec.upto umhMoreSpec)) umhMoreUptoCard

/-- THE SECOND FORM's CARD OF 'vinerylaw19.UmhHere'. -/
def umhHereUptoCard : Claim7 := { stood := { row := umhHereUptoRow, standIns := [], harness := (true, "592c4864ae670dba12e218f42ec886e9890109e1112e36c4b579d57abf3f4d24"), looks := true }, kinds := [], alts := [], laidByText := true, laidKinds := [.data, .data, .data, .data, .pinned], laidTests := true, laidLooks := .later }
def UmhHereUptoCardSaid : Prop := Claim7.holds Tryz.pinned (.plain (OpenSpec.upto umhHereSpec)) umhHereUptoCard

/-- THE SECOND FORM's CARD OF 'vinerylaw15.RibApart'. -/
def ribApartUptoCard : Claim7 := { stood := { row := ribApartUptoRow, standIns := [], harness := (true, "592c4864ae670dba12e218f42ec886e9890109e1112e36c4b579d57abf3f4d24"), looks := true }, kinds := [], alts := [], laidByText := true, laidKinds := [.data, .data, .data, .data, .pinned], laidTests := true, laidLooks := .later }
def RibApartUptoCardSaid : Prop := Claim7.holds Tryz.pinned (.plain (OpenSpec.upto ribApartSpec)) ribApartUptoCard
end Rows
end Go.Proofs.YtjhmobdncjhcnaaGreatDoor
