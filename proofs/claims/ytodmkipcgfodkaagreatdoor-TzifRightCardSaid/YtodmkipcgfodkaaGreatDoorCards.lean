/-
  DERIVED. GIVEN WITH THE SEED: THE CARDS: each row of YtodmkipcgfodkaaGreatDoorRows.lean that lists a variable, with what it lists TIED to the program's text (the seventh form; the later family's looks); each row that meets fmt, with fmt's text TOLD by the authors' own Lean function (tested against real Go, not proved from fmt's source: count such statements apart). THE CARD IS WHAT COUNTS. Prove the row's statement (the work); the ties are given (YtodmkipcgfodkaaGreatDoorTie.lean); close each card by the builder's one call (the guide's Derived/Test/ToyasCard.lean, 'card_holds'). Laid BY PROGRAM, IN A SANDBOX (cutbox-door.mjs). By AI agents, Wed Nov 11 2026. No macro, syntax, notation, axiom, sorry.
-/
import Derived.Test.YtodmkipcgfodkaaGreatDoorRows
import GoSem.ClaimSeven
namespace Go.Proofs.YtodmkipcgfodkaaGreatDoor
namespace Rows

/-- THE TIED CARD OF 'epactlaw20.TzifTells'. -/
def tzifTellsCard : Claim7 := { stood := { row := tzifTellsRow, standIns := [], harness := (true, "cd4fb2204c0f5b4fbd04807ca9a49aa89bda6b1ffaab6dceaf9055a8f0707e37"), looks := true }, kinds := [], alts := [], laidByText := true, laidKinds := [.data, .data, .data, .sentinel, .sentinel], laidTests := true, laidLooks := .later }
def TzifTellsCardSaid : Prop := Claim7.holds Tryz.pinned (.plain (OpenSpec.ofChange tzifTellsSpec)) tzifTellsCard

/-- THE TIED CARD OF 'epactlaw20.TzifBack'. -/
def tzifBackCard : Claim7 := { stood := { row := tzifBackRow, standIns := [], harness := (true, "cd4fb2204c0f5b4fbd04807ca9a49aa89bda6b1ffaab6dceaf9055a8f0707e37"), looks := true }, kinds := [], alts := [], laidByText := true, laidKinds := [.data, .data, .data, .sentinel, .sentinel], laidTests := true, laidLooks := .later }
def TzifBackCardSaid : Prop := Claim7.holds Tryz.pinned (.plain (OpenSpec.ofChange tzifBackSpec)) tzifBackCard

/-- THE TIED CARD OF 'epactlaw20.TzifRight'. -/
def tzifRightCard : Claim7 := { stood := { row := tzifRightRow, standIns := [], harness := (true, "cd4fb2204c0f5b4fbd04807ca9a49aa89bda6b1ffaab6dceaf9055a8f0707e37"), looks := true }, kinds := [], alts := [], laidByText := true, laidKinds := [.data, .data, .data, .sentinel, .sentinel], laidTests := true, laidLooks := .later }
def TzifRightCardSaid : Prop := Claim7.holds Tryz.pinned (.plain (OpenSpec.ofChange tzifRightSpec)) tzifRightCard

/-- THE TIED CARD OF 'epactlaw20.TzifShort'. -/
def tzifShortCard : Claim7 := { stood := { row := tzifShortRow, standIns := [], harness := (true, "cd4fb2204c0f5b4fbd04807ca9a49aa89bda6b1ffaab6dceaf9055a8f0707e37"), looks := true }, kinds := [], alts := [], laidByText := true, laidKinds := [.data, .data, .data, .sentinel, .sentinel], laidTests := true, laidLooks := .later }
def TzifShortCardSaid : Prop := Claim7.holds Tryz.pinned (.plain (OpenSpec.ofChange tzifShortSpec)) tzifShortCard

/-- THE TIED CARD OF 'epactlaw20.TzifVersions'. -/
def tzifVersionsCard : Claim7 := { stood := { row := tzifVersionsRow, standIns := [], harness := (true, "cd4fb2204c0f5b4fbd04807ca9a49aa89bda6b1ffaab6dceaf9055a8f0707e37"), looks := true }, kinds := [], alts := [], laidByText := true, laidKinds := [.data, .data, .data, .sentinel, .sentinel], laidTests := true, laidLooks := .later }
def TzifVersionsCardSaid : Prop := Claim7.holds Tryz.pinned (.plain (OpenSpec.ofChange tzifVersionsSpec)) tzifVersionsCard

/-- THE TIED CARD OF 'epactlaw19.ZoneBytes'. -/
def zoneBytesCard : Claim7 := { stood := { row := zoneBytesRow, standIns := [], harness := (true, "cd4fb2204c0f5b4fbd04807ca9a49aa89bda6b1ffaab6dceaf9055a8f0707e37"), looks := true }, kinds := [], alts := [], laidByText := true, laidKinds := [.data, .data, .data, .sentinel, .sentinel], laidTests := true, laidLooks := .later }
def ZoneBytesCardSaid : Prop := Claim7.holds Tryz.pinned (.plain (OpenSpec.ofChange zoneBytesSpec)) zoneBytesCard

/-- THE TIED CARD OF 'epactlaw20.TzifApart'. -/
def tzifApartCard : Claim7 := { stood := { row := tzifApartRow, standIns := [], harness := (true, "cd4fb2204c0f5b4fbd04807ca9a49aa89bda6b1ffaab6dceaf9055a8f0707e37"), looks := true }, kinds := [], alts := [], laidByText := true, laidKinds := [.data, .data, .data, .sentinel, .sentinel], laidTests := true, laidLooks := .later }
def TzifApartCardSaid : Prop := Claim7.holds Tryz.pinned (.plain (OpenSpec.ofChange tzifApartSpec)) tzifApartCard

/-- THE TIED CARD OF 'epactlaw24.LocalTells'. -/
def localTellsCard : Claim7 := { stood := { row := localTellsRow, standIns := [], harness := (true, "cd4fb2204c0f5b4fbd04807ca9a49aa89bda6b1ffaab6dceaf9055a8f0707e37"), looks := true }, kinds := [], alts := [], laidByText := true, laidKinds := [.data, .data, .data, .sentinel, .sentinel], laidTests := true, laidLooks := .later }
def LocalTellsCardSaid : Prop := Claim7.holds Tryz.pinned (.plain (OpenSpec.ofChange localTellsSpec)) localTellsCard

/-- THE TIED CARD OF 'epactlaw24.LocalBack'. -/
def localBackCard : Claim7 := { stood := { row := localBackRow, standIns := [], harness := (true, "cd4fb2204c0f5b4fbd04807ca9a49aa89bda6b1ffaab6dceaf9055a8f0707e37"), looks := true }, kinds := [], alts := [], laidByText := true, laidKinds := [.data, .data, .data, .sentinel, .sentinel], laidTests := true, laidLooks := .later }
def LocalBackCardSaid : Prop := Claim7.holds Tryz.pinned (.plain (OpenSpec.ofChange localBackSpec)) localBackCard

/-- THE TIED CARD OF 'epactlaw24.LocalTexts'. -/
def localTextsCard : Claim7 := { stood := { row := localTextsRow, standIns := [], harness := (true, "cd4fb2204c0f5b4fbd04807ca9a49aa89bda6b1ffaab6dceaf9055a8f0707e37"), looks := true }, kinds := [], alts := [], laidByText := true, laidKinds := [.data, .data, .data, .sentinel, .sentinel], laidTests := true, laidLooks := .later }
def LocalTextsCardSaid : Prop := Claim7.holds Tryz.pinned (.plain (OpenSpec.ofChange localTextsSpec)) localTextsCard

/-- THE TIED CARD OF 'epactlaw24.LocalSixty'. -/
def localSixtyCard : Claim7 := { stood := { row := localSixtyRow, standIns := [], harness := (true, "cd4fb2204c0f5b4fbd04807ca9a49aa89bda6b1ffaab6dceaf9055a8f0707e37"), looks := true }, kinds := [], alts := [], laidByText := true, laidKinds := [.data, .data, .data, .sentinel, .sentinel], laidTests := true, laidLooks := .later }
def LocalSixtyCardSaid : Prop := Claim7.holds Tryz.pinned (.plain (OpenSpec.ofChange localSixtySpec)) localSixtyCard

/-- THE TIED CARD OF 'epactlaw24.LocalUtc'. -/
def localUtcCard : Claim7 := { stood := { row := localUtcRow, standIns := [], harness := (true, "cd4fb2204c0f5b4fbd04807ca9a49aa89bda6b1ffaab6dceaf9055a8f0707e37"), looks := true }, kinds := [], alts := [], laidByText := true, laidKinds := [.data, .data, .data, .sentinel, .sentinel], laidTests := true, laidLooks := .later }
def LocalUtcCardSaid : Prop := Claim7.holds Tryz.pinned (.plain (OpenSpec.ofChange localUtcSpec)) localUtcCard

/-- THE SECOND FORM's CARD OF 'epactlaw20.TzifTells'. -/
def tzifTellsUptoCard : Claim7 := { stood := { row := tzifTellsUptoRow, standIns := [], harness := (true, "cd4fb2204c0f5b4fbd04807ca9a49aa89bda6b1ffaab6dceaf9055a8f0707e37"), looks := true }, kinds := [], alts := [], laidByText := true, laidKinds := [.data, .data, .data, .sentinel, .sentinel], laidTests := true, laidLooks := .later }
def TzifTellsUptoCardSaid : Prop := Claim7.holds Tryz.pinned (.plain (OpenSpec.upto tzifTellsSpec)) tzifTellsUptoCard

/-- THE SECOND FORM's CARD OF 'epactlaw20.TzifBack'. -/
def tzifBackUptoCard : Claim7 := { stood := { row := tzifBackUptoRow, standIns := [], harness := (true, "cd4fb2204c0f5b4fbd04807ca9a49aa89bda6b1ffaab6dceaf9055a8f0707e37"), looks := true }, kinds := [], alts := [], laidByText := true, laidKinds := [.data, .data, .data, .sentinel, .sentinel], laidTests := true, laidLooks := .later }
def TzifBackUptoCardSaid : Prop := Claim7.holds Tryz.pinned (.plain (OpenSpec.upto tzifBackSpec)) tzifBackUptoCard

/-- THE SECOND FORM's CARD OF 'epactlaw20.TzifRight'. -/
def tzifRightUptoCard : Claim7 := { stood := { row := tzifRightUptoRow, standIns := [], harness := (true, "cd4fb2204c0f5b4fbd04807ca9a49aa89bda6b1ffaab6dceaf9055a8f0707e37"), looks := true }, kinds := [], alts := [], laidByText := true, laidKinds := [.data, .data, .data, .sentinel, .sentinel], laidTests := true, laidLooks := .later }
def TzifRightUptoCardSaid : Prop := Claim7.holds Tryz.pinned (.plain (OpenSpec.upto tzifRightSpec)) tzifRightUptoCard

/-- THE SECOND FORM's CARD OF 'epactlaw20.TzifShort'. -/
def tzifShortUptoCard : Claim7 := { stood := { row := tzifShortUptoRow, standIns := [], harness := (true, "cd4fb2204c0f5b4fbd04807ca9a49aa89bda6b1ffaab6dceaf9055a8f0707e37"), looks := true }, kinds := [], alts := [], laidByText := true, laidKinds := [.data, .data, .data, .sentinel, .sentinel], laidTests := true, laidLooks := .later }
def TzifShortUptoCardSaid : Prop := Claim7.holds Tryz.pinned (.plain (OpenSpec.upto tzifShortSpec)) tzifShortUptoCard

/-- THE SECOND FORM's CARD OF 'epactlaw20.TzifVersions'. -/
def tzifVersionsUptoCard : Claim7 := { stood := { row := tzifVersionsUptoRow, standIns := [], harness := (true, "cd4fb2204c0f5b4fbd04807ca9a49aa89bda6b1ffaab6dceaf9055a8f0707e37"), looks := true }, kinds := [], alts := [], laidByText := true, laidKinds := [.data, .data, .data, .sentinel, .sentinel], laidTests := true, laidLooks := .later }
def TzifVersionsUptoCardSaid : Prop := Claim7.holds Tryz.pinned (.plain (OpenSpec.upto tzifVersionsSpec)) tzifVersionsUptoCard

/-- THE SECOND FORM's CARD OF 'epactlaw19.ZoneBytes'. -/
def zoneBytesUptoCard : Claim7 := { stood := { row := zoneBytesUptoRow, standIns := [], harness := (true, "cd4fb2204c0f5b4fbd04807ca9a49aa89bda6b1ffaab6dceaf9055a8f0707e37"), looks := true }, kinds := [], alts := [], laidByText := true, laidKinds := [.data, .data, .data, .sentinel, .sentinel], laidTests := true, laidLooks := .later }
def ZoneBytesUptoCardSaid : Prop := Claim7.holds Tryz.pinned (.plain (OpenSpec.upto zoneBytesSpec)) zoneBytesUptoCard

/-- THE SECOND FORM's CARD OF 'epactlaw20.TzifApart'. -/
def tzifApartUptoCard : Claim7 := { stood := { row := tzifApartUptoRow, standIns := [], harness := (true, "cd4fb2204c0f5b4fbd04807ca9a49aa89bda6b1ffaab6dceaf9055a8f0707e37"), looks := true }, kinds := [], alts := [], laidByText := true, laidKinds := [.data, .data, .data, .sentinel, .sentinel], laidTests := true, laidLooks := .later }
def TzifApartUptoCardSaid : Prop := Claim7.holds Tryz.pinned (.plain (OpenSpec.upto tzifApartSpec)) tzifApartUptoCard

/-- THE SECOND FORM's CARD OF 'epactlaw24.LocalTells'. -/
def localTellsUptoCard : Claim7 := { stood := { row := localTellsUptoRow, standIns := [], harness := (true, "cd4fb2204c0f5b4fbd04807ca9a49aa89bda6b1ffaab6dceaf9055a8f0707e37"), looks := true }, kinds := [], alts := [], laidByText := true, laidKinds := [.data, .data, .data, .sentinel, .sentinel], laidTests := true, laidLooks := .later }
def LocalTellsUptoCardSaid : Prop := Claim7.holds Tryz.pinned (.plain (OpenSpec.upto localTellsSpec)) localTellsUptoCard

/-- THE SECOND FORM's CARD OF 'epactlaw24.LocalBack'. -/
def localBackUptoCard : Claim7 := { stood := { row := localBackUptoRow, standIns := [], harness := (true, "cd4fb2204c0f5b4fbd04807ca9a49aa89bda6b1ffaab6dceaf9055a8f0707e37"), looks := true }, kinds := [], alts := [], laidByText := true, laidKinds := [.data, .data, .data, .sentinel, .sentinel], laidTests := true, laidLooks := .later }
def LocalBackUptoCardSaid : Prop := Claim7.holds Tryz.pinned (.plain (OpenSpec.upto localBackSpec)) localBackUptoCard

/-- THE SECOND FORM's CARD OF 'epactlaw24.LocalTexts'. -/
def localTextsUptoCard : Claim7 := { stood := { row := localTextsUptoRow, standIns := [], harness := (true, "cd4fb2204c0f5b4fbd04807ca9a49aa89bda6b1ffaab6dceaf9055a8f0707e37"), looks := true }, kinds := [], alts := [], laidByText := true, laidKinds := [.data, .data, .data, .sentinel, .sentinel], laidTests := true, laidLooks := .later }
def LocalTextsUptoCardSaid : Prop := Claim7.holds Tryz.pinned (.plain (OpenSpec.upto localTextsSpec)) localTextsUptoCard

/-- THE SECOND FORM's CARD OF 'epactlaw24.LocalSixty'. -/
def localSixtyUptoCard : Claim7 := { stood := { row := localSixtyUptoRow, standIns := [], harness := (true, "cd4fb2204c0f5b4fbd04807ca9a49aa89bda6b1ffaab6dceaf9055a8f0707e37"), looks := true }, kinds := [], alts := [], laidByText := true, laidKinds := [.data, .data, .data, .sentinel, .sentinel], laidTests := true, laidLooks := .later }
def LocalSixtyUptoCardSaid : Prop := Claim7.holds Tryz.pinned (.plain (OpenSpec.upto localSixtySpec)) localSixtyUptoCard

/-- THE SECOND FORM's CARD OF 'epactlaw24.LocalUtc'. -/
def localUtcUptoCard : Claim7 := { stood := { row := localUtcUptoRow, standIns := [], harness := (true, "cd4fb2204c0f5b4fbd04807ca9a49aa89bda6b1ffaab6dceaf9055a8f0707e37"), looks := true }, kinds := [], alts := [], laidByText := true, laidKinds := [.data, .data, .data, .sentinel, .sentinel], laidTests := true, laidLooks := .later }
def LocalUtcUptoCardSaid : Prop := Claim7.holds Tryz.pinned (.plain (OpenSpec.upto localUtcSpec)) localUtcUptoCard
end Rows
end Go.Proofs.YtodmkipcgfodkaaGreatDoor
