/-
  DERIVED. GIVEN WITH THE SEED: THE CARDS: each row of YtmbdcbfandebhaaGreatDoorRows.lean that lists a variable, with what it lists TIED to the program's text (the seventh form; the later family's looks); each row that meets fmt, with fmt's text TOLD by the authors' own Lean function (tested against real Go, not proved from fmt's source: count such statements apart). THE CARD IS WHAT COUNTS. Prove the row's statement (the work); the ties are given (YtmbdcbfandebhaaGreatDoorTie.lean); close each card by the builder's one call (the guide's Derived/Test/ToyasCard.lean, 'card_holds'). Laid BY PROGRAM, IN A SANDBOX (cutbox-door.mjs). By AI agents, Wed Nov 11 2026. No macro, syntax, notation, axiom, sorry.
-/
import Derived.Test.YtmbdcbfandebhaaGreatDoorRows
import GoSem.ClaimSeven
namespace Go.Proofs.YtmbdcbfandebhaaGreatDoor
namespace Rows

/-- THE TIED CARD OF 'epactlaw19.ZoneTells'. -/
def zoneTellsCard : Claim7 := { stood := { row := zoneTellsRow, standIns := [], harness := (true, "05becfdd9506ae380c899f9f559911820a4b29b0271d870d1ada9ca6c044ce21"), looks := true }, kinds := [], alts := [], laidByText := true, laidKinds := [.data, .data, .data, .sentinel, .sentinel], laidTests := true, laidLooks := .later }
def ZoneTellsCardSaid : Prop := Claim7.holds Tryz.pinned (.plain (OpenSpec.ofChange zoneTellsSpec)) zoneTellsCard

/-- THE TIED CARD OF 'epactlaw19.ZoneHolds'. -/
def zoneHoldsCard : Claim7 := { stood := { row := zoneHoldsRow, standIns := [], harness := (true, "05becfdd9506ae380c899f9f559911820a4b29b0271d870d1ada9ca6c044ce21"), looks := true }, kinds := [], alts := [], laidByText := true, laidKinds := [.data, .data, .data, .sentinel, .sentinel], laidTests := true, laidLooks := .later }
def ZoneHoldsCardSaid : Prop := Claim7.holds Tryz.pinned (.plain (OpenSpec.ofChange zoneHoldsSpec)) zoneHoldsCard

/-- THE TIED CARD OF 'epactlaw19.ZoneFoots'. -/
def zoneFootsCard : Claim7 := { stood := { row := zoneFootsRow, standIns := [], harness := (true, "05becfdd9506ae380c899f9f559911820a4b29b0271d870d1ada9ca6c044ce21"), looks := true }, kinds := [], alts := [], laidByText := true, laidKinds := [.data, .data, .data, .sentinel, .sentinel], laidTests := true, laidLooks := .later }
def ZoneFootsCardSaid : Prop := Claim7.holds Tryz.pinned (.plain (OpenSpec.ofChange zoneFootsSpec)) zoneFootsCard

/-- THE TIED CARD OF 'epactlaw19.ZoneVersions'. -/
def zoneVersionsCard : Claim7 := { stood := { row := zoneVersionsRow, standIns := [], harness := (true, "05becfdd9506ae380c899f9f559911820a4b29b0271d870d1ada9ca6c044ce21"), looks := true }, kinds := [], alts := [], laidByText := true, laidKinds := [.data, .data, .data, .sentinel, .sentinel], laidTests := true, laidLooks := .later }
def ZoneVersionsCardSaid : Prop := Claim7.holds Tryz.pinned (.plain (OpenSpec.ofChange zoneVersionsSpec)) zoneVersionsCard

/-- THE TIED CARD OF 'epactlaw19.ZonePosix'. -/
def zonePosixCard : Claim7 := { stood := { row := zonePosixRow, standIns := [], harness := (true, "05becfdd9506ae380c899f9f559911820a4b29b0271d870d1ada9ca6c044ce21"), looks := true }, kinds := [], alts := [], laidByText := true, laidKinds := [.data, .data, .data, .sentinel, .sentinel], laidTests := true, laidLooks := .later }
def ZonePosixCardSaid : Prop := Claim7.holds Tryz.pinned (.plain (OpenSpec.ofChange zonePosixSpec)) zonePosixCard

/-- THE TIED CARD OF 'epactlaw19.ZoneBytes'. -/
def zoneBytesCard : Claim7 := { stood := { row := zoneBytesRow, standIns := [], harness := (true, "05becfdd9506ae380c899f9f559911820a4b29b0271d870d1ada9ca6c044ce21"), looks := true }, kinds := [], alts := [], laidByText := true, laidKinds := [.data, .data, .data, .sentinel, .sentinel], laidTests := true, laidLooks := .later }
def ZoneBytesCardSaid : Prop := Claim7.holds Tryz.pinned (.plain (OpenSpec.ofChange zoneBytesSpec)) zoneBytesCard

/-- THE SECOND FORM's CARD OF 'epactlaw19.ZoneTells'. -/
def zoneTellsUptoCard : Claim7 := { stood := { row := zoneTellsUptoRow, standIns := [], harness := (true, "05becfdd9506ae380c899f9f559911820a4b29b0271d870d1ada9ca6c044ce21"), looks := true }, kinds := [], alts := [], laidByText := true, laidKinds := [.data, .data, .data, .sentinel, .sentinel], laidTests := true, laidLooks := .later }
def ZoneTellsUptoCardSaid : Prop := Claim7.holds Tryz.pinned (.plain (OpenSpec.upto zoneTellsSpec)) zoneTellsUptoCard

/-- THE SECOND FORM's CARD OF 'epactlaw19.ZoneHolds'. -/
def zoneHoldsUptoCard : Claim7 := { stood := { row := zoneHoldsUptoRow, standIns := [], harness := (true, "05becfdd9506ae380c899f9f559911820a4b29b0271d870d1ada9ca6c044ce21"), looks := true }, kinds := [], alts := [], laidByText := true, laidKinds := [.data, .data, .data, .sentinel, .sentinel], laidTests := true, laidLooks := .later }
def ZoneHoldsUptoCardSaid : Prop := Claim7.holds Tryz.pinned (.plain (OpenSpec.upto zoneHoldsSpec)) zoneHoldsUptoCard

/-- THE SECOND FORM's CARD OF 'epactlaw19.ZoneFoots'. -/
def zoneFootsUptoCard : Claim7 := { stood := { row := zoneFootsUptoRow, standIns := [], harness := (true, "05becfdd9506ae380c899f9f559911820a4b29b0271d870d1ada9ca6c044ce21"), looks := true }, kinds := [], alts := [], laidByText := true, laidKinds := [.data, .data, .data, .sentinel, .sentinel], laidTests := true, laidLooks := .later }
def ZoneFootsUptoCardSaid : Prop := Claim7.holds Tryz.pinned (.plain (OpenSpec.upto zoneFootsSpec)) zoneFootsUptoCard

/-- THE SECOND FORM's CARD OF 'epactlaw19.ZoneVersions'. -/
def zoneVersionsUptoCard : Claim7 := { stood := { row := zoneVersionsUptoRow, standIns := [], harness := (true, "05becfdd9506ae380c899f9f559911820a4b29b0271d870d1ada9ca6c044ce21"), looks := true }, kinds := [], alts := [], laidByText := true, laidKinds := [.data, .data, .data, .sentinel, .sentinel], laidTests := true, laidLooks := .later }
def ZoneVersionsUptoCardSaid : Prop := Claim7.holds Tryz.pinned (.plain (OpenSpec.upto zoneVersionsSpec)) zoneVersionsUptoCard

/-- THE SECOND FORM's CARD OF 'epactlaw19.ZonePosix'. -/
def zonePosixUptoCard : Claim7 := { stood := { row := zonePosixUptoRow, standIns := [], harness := (true, "05becfdd9506ae380c899f9f559911820a4b29b0271d870d1ada9ca6c044ce21"), looks := true }, kinds := [], alts := [], laidByText := true, laidKinds := [.data, .data, .data, .sentinel, .sentinel], laidTests := true, laidLooks := .later }
def ZonePosixUptoCardSaid : Prop := Claim7.holds Tryz.pinned (.plain (OpenSpec.upto zonePosixSpec)) zonePosixUptoCard

/-- THE SECOND FORM's CARD OF 'epactlaw19.ZoneBytes'. -/
def zoneBytesUptoCard : Claim7 := { stood := { row := zoneBytesUptoRow, standIns := [], harness := (true, "05becfdd9506ae380c899f9f559911820a4b29b0271d870d1ada9ca6c044ce21"), looks := true }, kinds := [], alts := [], laidByText := true, laidKinds := [.data, .data, .data, .sentinel, .sentinel], laidTests := true, laidLooks := .later }
def ZoneBytesUptoCardSaid : Prop := Claim7.holds Tryz.pinned (.plain (OpenSpec.upto zoneBytesSpec)) zoneBytesUptoCard
end Rows
end Go.Proofs.YtmbdcbfandebhaaGreatDoor
