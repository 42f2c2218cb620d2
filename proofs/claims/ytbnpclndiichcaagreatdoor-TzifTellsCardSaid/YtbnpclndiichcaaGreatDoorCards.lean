/-
  DERIVED. GIVEN WITH THE SEED: THE CARDS: each row of YtbnpclndiichcaaGreatDoorRows.lean that lists a variable, with what it lists TIED to the program's text (the seventh form; the later family's looks); each row that meets fmt, with fmt's text TOLD by the authors' own Lean function (tested against real Go, not proved from fmt's source: count such statements apart). THE CARD IS WHAT COUNTS. Prove the row's statement (the work); the ties are given (YtbnpclndiichcaaGreatDoorTie.lean); close each card by the builder's one call (the guide's Derived/Test/ToyasCard.lean, 'card_holds'). Laid BY PROGRAM, IN A SANDBOX (cutbox-door.mjs). By AI agents, Wed Nov 11 2026. No macro, syntax, notation, axiom, sorry.
-/
import Derived.Test.YtbnpclndiichcaaGreatDoorRows
import GoSem.ClaimSeven
namespace Go.Proofs.YtbnpclndiichcaaGreatDoor
namespace Rows

/-- THE TIED CARD OF 'epactlaw20.TzifTells'. -/
def tzifTellsCard : Claim7 := { stood := { row := tzifTellsRow, standIns := [], harness := (true, "2004b192542a3c5bf2a0a254c9ac2f5904bdc620927d834c04af767350e550c0"), looks := true }, kinds := [], alts := [], laidByText := true, laidKinds := [.data, .data, .data, .sentinel, .sentinel], laidTests := true, laidLooks := .later }
def TzifTellsCardSaid : Prop := Claim7.holds Tryz.pinned (.plain (OpenSpec.ofChange tzifTellsSpec)) tzifTellsCard

/-- THE TIED CARD OF 'epactlaw20.TzifShort'. -/
def tzifShortCard : Claim7 := { stood := { row := tzifShortRow, standIns := [], harness := (true, "2004b192542a3c5bf2a0a254c9ac2f5904bdc620927d834c04af767350e550c0"), looks := true }, kinds := [], alts := [], laidByText := true, laidKinds := [.data, .data, .data, .sentinel, .sentinel], laidTests := true, laidLooks := .later }
def TzifShortCardSaid : Prop := Claim7.holds Tryz.pinned (.plain (OpenSpec.ofChange tzifShortSpec)) tzifShortCard

/-- THE TIED CARD OF 'epactlaw20.TzifVersions'. -/
def tzifVersionsCard : Claim7 := { stood := { row := tzifVersionsRow, standIns := [], harness := (true, "2004b192542a3c5bf2a0a254c9ac2f5904bdc620927d834c04af767350e550c0"), looks := true }, kinds := [], alts := [], laidByText := true, laidKinds := [.data, .data, .data, .sentinel, .sentinel], laidTests := true, laidLooks := .later }
def TzifVersionsCardSaid : Prop := Claim7.holds Tryz.pinned (.plain (OpenSpec.ofChange tzifVersionsSpec)) tzifVersionsCard

/-- THE TIED CARD OF 'epactlaw19.ZoneBytes'. -/
def zoneBytesCard : Claim7 := { stood := { row := zoneBytesRow, standIns := [], harness := (true, "2004b192542a3c5bf2a0a254c9ac2f5904bdc620927d834c04af767350e550c0"), looks := true }, kinds := [], alts := [], laidByText := true, laidKinds := [.data, .data, .data, .sentinel, .sentinel], laidTests := true, laidLooks := .later }
def ZoneBytesCardSaid : Prop := Claim7.holds Tryz.pinned (.plain (OpenSpec.ofChange zoneBytesSpec)) zoneBytesCard

/-- THE TIED CARD OF 'epactlaw20.TzifApart'. -/
def tzifApartCard : Claim7 := { stood := { row := tzifApartRow, standIns := [], harness := (true, "2004b192542a3c5bf2a0a254c9ac2f5904bdc620927d834c04af767350e550c0"), looks := true }, kinds := [], alts := [], laidByText := true, laidKinds := [.data, .data, .data, .sentinel, .sentinel], laidTests := true, laidLooks := .later }
def TzifApartCardSaid : Prop := Claim7.holds Tryz.pinned (.plain (OpenSpec.ofChange tzifApartSpec)) tzifApartCard

/-- THE TIED CARD OF 'epactlaw24.LocalTells'. -/
def localTellsCard : Claim7 := { stood := { row := localTellsRow, standIns := [], harness := (true, "2004b192542a3c5bf2a0a254c9ac2f5904bdc620927d834c04af767350e550c0"), looks := true }, kinds := [], alts := [], laidByText := true, laidKinds := [.data, .data, .data, .sentinel, .sentinel], laidTests := true, laidLooks := .later }
def LocalTellsCardSaid : Prop := Claim7.holds Tryz.pinned (.plain (OpenSpec.ofChange localTellsSpec)) localTellsCard

/-- THE SECOND FORM's CARD OF 'epactlaw20.TzifTells'. -/
def tzifTellsUptoCard : Claim7 := { stood := { row := tzifTellsUptoRow, standIns := [], harness := (true, "2004b192542a3c5bf2a0a254c9ac2f5904bdc620927d834c04af767350e550c0"), looks := true }, kinds := [], alts := [], laidByText := true, laidKinds := [.data, .data, .data, .sentinel, .sentinel], laidTests := true, laidLooks := .later }
def TzifTellsUptoCardSaid : Prop := Claim7.holds Tryz.pinned (.plain (OpenSpec.upto tzifTellsSpec)) tzifTellsUptoCard

/-- THE SECOND FORM's CARD OF 'epactlaw20.TzifShort'. -/
def tzifShortUptoCard : Claim7 := { stood := { row := tzifShortUptoRow, standIns := [], harness := (true, "2004b192542a3c5bf2a0a254c9ac2f5904bdc620927d834c04af767350e550c0"), looks := true }, kinds := [], alts := [], laidByText := true, laidKinds := [.data, .data, .data, .sentinel, .sentinel], laidTests := true, laidLooks := .later }
def TzifShortUptoCardSaid : Prop := Claim7.holds Tryz.pinned (.plain (OpenSpec.upto tzifShortSpec)) tzifShortUptoCard

/-- THE SECOND FORM's CARD OF 'epactlaw20.TzifVersions'. -/
def tzifVersionsUptoCard : Claim7 := { stood := { row := tzifVersionsUptoRow, standIns := [], harness := (true, "2004b192542a3c5bf2a0a254c9ac2f5904bdc620927d834c04af767350e550c0"), looks := true }, kinds := [], alts := [], laidByText := true, laidKinds := [.data, .data, .data, .sentinel, .sentinel], laidTests := true, laidLooks := .later }
def TzifVersionsUptoCardSaid : Prop := Claim7.holds Tryz.pinned (.plain (OpenSpec.upto tzifVersionsSpec)) tzifVersionsUptoCard

/-- THE SECOND FORM's CARD OF 'epactlaw19.ZoneBytes'. -/
def zoneBytesUptoCard : Claim7 := { stood := { row := zoneBytesUptoRow, standIns := [], harness := (true, "2004b192542a3c5bf2a0a254c9ac2f5904bdc620927d834c04af767350e550c0"), looks := true }, kinds := [], alts := [], laidByText := true, laidKinds := [.data, .data, .data, .sentinel, .sentinel], laidTests := true, laidLooks := .later }
def ZoneBytesUptoCardSaid : Prop := Claim7.holds Tryz.pinned (.plain (OpenSpec.upto zoneBytesSpec)) zoneBytesUptoCard

/-- THE SECOND FORM's CARD OF 'epactlaw20.TzifApart'. -/
def tzifApartUptoCard : Claim7 := { stood := { row := tzifApartUptoRow, standIns := [], harness := (true, "2004b192542a3c5bf2a0a254c9ac2f5904bdc620927d834c04af767350e550c0"), looks := true }, kinds := [], alts := [], laidByText := true, laidKinds := [.data, .data, .data, .sentinel, .sentinel], laidTests := true, laidLooks := .later }
def TzifApartUptoCardSaid : Prop := Claim7.holds Tryz.pinned (.plain (OpenSpec.upto tzifApartSpec)) tzifApartUptoCard

/-- THE SECOND FORM's CARD OF 'epactlaw24.LocalTells'. -/
def localTellsUptoCard : Claim7 := { stood := { row := localTellsUptoRow, standIns := [], harness := (true, "2004b192542a3c5bf2a0a254c9ac2f5904bdc620927d834c04af767350e550c0"), looks := true }, kinds := [], alts := [], laidByText := true, laidKinds := [.data, .data, .data, .sentinel, .sentinel], laidTests := true, laidLooks := .later }
def LocalTellsUptoCardSaid : Prop := Claim7.holds Tryz.pinned (.plain (OpenSpec.upto localTellsSpec)) localTellsUptoCard
end Rows
end Go.Proofs.YtbnpclndiichcaaGreatDoor
