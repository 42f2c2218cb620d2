/-
  DERIVED. GIVEN WITH THE SEED: THE CARDS: each row of YtenaflbcnkalbaaGreatDoorRows.lean that lists a variable, with what it lists TIED to the program's text (the seventh form; the later family's looks); each row that meets fmt, with fmt's text TOLD by the authors' own Lean function (tested against real Go, not proved from fmt's source: count such statements apart). THE CARD IS WHAT COUNTS. Prove the row's statement (the work); the ties are given (YtenaflbcnkalbaaGreatDoorTie.lean); close each card by the builder's one call (the guide's Derived/Test/ToyasCard.lean, 'card_holds'). Laid BY PROGRAM, IN A SANDBOX (cutbox-door.mjs). By AI agents, Wed Nov 11 2026. No macro, syntax, notation, axiom, sorry.
-/
import Derived.Test.YtenaflbcnkalbaaGreatDoorRows
import GoSem.ClaimSeven
namespace Go.Proofs.YtenaflbcnkalbaaGreatDoor
namespace Rows

/-- THE TIED CARD OF 'epactlaw21.RightTells'. -/
def rightTellsCard : Claim7 := { stood := { row := rightTellsRow, standIns := [], harness := (true, "35a470db3e8ebddad4eea300c88d51d5fc6bc322126da1bb2a8a96779a54ed05"), looks := true }, kinds := [], alts := [], laidByText := true, laidKinds := [.data, .data, .data, .sentinel, .sentinel], laidTests := true, laidLooks := .later }
def RightTellsCardSaid : Prop := Claim7.holds Tryz.pinned (.plain (OpenSpec.ofChange rightTellsSpec)) rightTellsCard

/-- THE TIED CARD OF 'epactlaw21.RightHolds'. -/
def rightHoldsCard : Claim7 := { stood := { row := rightHoldsRow, standIns := [], harness := (true, "35a470db3e8ebddad4eea300c88d51d5fc6bc322126da1bb2a8a96779a54ed05"), looks := true }, kinds := [], alts := [], laidByText := true, laidKinds := [.data, .data, .data, .sentinel, .sentinel], laidTests := true, laidLooks := .later }
def RightHoldsCardSaid : Prop := Claim7.holds Tryz.pinned (.plain (OpenSpec.ofChange rightHoldsSpec)) rightHoldsCard

/-- THE TIED CARD OF 'epactlaw21.RightRolls'. -/
def rightRollsCard : Claim7 := { stood := { row := rightRollsRow, standIns := [], harness := (true, "35a470db3e8ebddad4eea300c88d51d5fc6bc322126da1bb2a8a96779a54ed05"), looks := true }, kinds := [], alts := [], laidByText := true, laidKinds := [.data, .data, .data, .sentinel, .sentinel], laidTests := true, laidLooks := .later }
def RightRollsCardSaid : Prop := Claim7.holds Tryz.pinned (.plain (OpenSpec.ofChange rightRollsSpec)) rightRollsCard

/-- THE TIED CARD OF 'epactlaw21.RightShifts'. -/
def rightShiftsCard : Claim7 := { stood := { row := rightShiftsRow, standIns := [], harness := (true, "35a470db3e8ebddad4eea300c88d51d5fc6bc322126da1bb2a8a96779a54ed05"), looks := true }, kinds := [], alts := [], laidByText := true, laidKinds := [.data, .data, .data, .sentinel, .sentinel], laidTests := true, laidLooks := .later }
def RightShiftsCardSaid : Prop := Claim7.holds Tryz.pinned (.plain (OpenSpec.ofChange rightShiftsSpec)) rightShiftsCard

/-- THE TIED CARD OF 'epactlaw21.RightCuts'. -/
def rightCutsCard : Claim7 := { stood := { row := rightCutsRow, standIns := [], harness := (true, "35a470db3e8ebddad4eea300c88d51d5fc6bc322126da1bb2a8a96779a54ed05"), looks := true }, kinds := [], alts := [], laidByText := true, laidKinds := [.data, .data, .data, .sentinel, .sentinel], laidTests := true, laidLooks := .later }
def RightCutsCardSaid : Prop := Claim7.holds Tryz.pinned (.plain (OpenSpec.ofChange rightCutsSpec)) rightCutsCard

/-- THE TIED CARD OF 'epactlaw21.RightPlain'. -/
def rightPlainCard : Claim7 := { stood := { row := rightPlainRow, standIns := [], harness := (true, "35a470db3e8ebddad4eea300c88d51d5fc6bc322126da1bb2a8a96779a54ed05"), looks := true }, kinds := [], alts := [], laidByText := true, laidKinds := [.data, .data, .data, .sentinel, .sentinel], laidTests := true, laidLooks := .later }
def RightPlainCardSaid : Prop := Claim7.holds Tryz.pinned (.plain (OpenSpec.ofChange rightPlainSpec)) rightPlainCard

/-- THE TIED CARD OF 'epactlaw20.TzifTells'. -/
def tzifTellsCard : Claim7 := { stood := { row := tzifTellsRow, standIns := [], harness := (true, "35a470db3e8ebddad4eea300c88d51d5fc6bc322126da1bb2a8a96779a54ed05"), looks := true }, kinds := [], alts := [], laidByText := true, laidKinds := [.data, .data, .data, .sentinel, .sentinel], laidTests := true, laidLooks := .later }
def TzifTellsCardSaid : Prop := Claim7.holds Tryz.pinned (.plain (OpenSpec.ofChange tzifTellsSpec)) tzifTellsCard

/-- THE TIED CARD OF 'epactlaw20.TzifBack'. -/
def tzifBackCard : Claim7 := { stood := { row := tzifBackRow, standIns := [], harness := (true, "35a470db3e8ebddad4eea300c88d51d5fc6bc322126da1bb2a8a96779a54ed05"), looks := true }, kinds := [], alts := [], laidByText := true, laidKinds := [.data, .data, .data, .sentinel, .sentinel], laidTests := true, laidLooks := .later }
def TzifBackCardSaid : Prop := Claim7.holds Tryz.pinned (.plain (OpenSpec.ofChange tzifBackSpec)) tzifBackCard

/-- THE TIED CARD OF 'epactlaw20.TzifRight'. -/
def tzifRightCard : Claim7 := { stood := { row := tzifRightRow, standIns := [], harness := (true, "35a470db3e8ebddad4eea300c88d51d5fc6bc322126da1bb2a8a96779a54ed05"), looks := true }, kinds := [], alts := [], laidByText := true, laidKinds := [.data, .data, .data, .sentinel, .sentinel], laidTests := true, laidLooks := .later }
def TzifRightCardSaid : Prop := Claim7.holds Tryz.pinned (.plain (OpenSpec.ofChange tzifRightSpec)) tzifRightCard

/-- THE TIED CARD OF 'epactlaw20.TzifShort'. -/
def tzifShortCard : Claim7 := { stood := { row := tzifShortRow, standIns := [], harness := (true, "35a470db3e8ebddad4eea300c88d51d5fc6bc322126da1bb2a8a96779a54ed05"), looks := true }, kinds := [], alts := [], laidByText := true, laidKinds := [.data, .data, .data, .sentinel, .sentinel], laidTests := true, laidLooks := .later }
def TzifShortCardSaid : Prop := Claim7.holds Tryz.pinned (.plain (OpenSpec.ofChange tzifShortSpec)) tzifShortCard

/-- THE TIED CARD OF 'epactlaw20.TzifVersions'. -/
def tzifVersionsCard : Claim7 := { stood := { row := tzifVersionsRow, standIns := [], harness := (true, "35a470db3e8ebddad4eea300c88d51d5fc6bc322126da1bb2a8a96779a54ed05"), looks := true }, kinds := [], alts := [], laidByText := true, laidKinds := [.data, .data, .data, .sentinel, .sentinel], laidTests := true, laidLooks := .later }
def TzifVersionsCardSaid : Prop := Claim7.holds Tryz.pinned (.plain (OpenSpec.ofChange tzifVersionsSpec)) tzifVersionsCard

/-- THE TIED CARD OF 'epactlaw20.TzifApart'. -/
def tzifApartCard : Claim7 := { stood := { row := tzifApartRow, standIns := [], harness := (true, "35a470db3e8ebddad4eea300c88d51d5fc6bc322126da1bb2a8a96779a54ed05"), looks := true }, kinds := [], alts := [], laidByText := true, laidKinds := [.data, .data, .data, .sentinel, .sentinel], laidTests := true, laidLooks := .later }
def TzifApartCardSaid : Prop := Claim7.holds Tryz.pinned (.plain (OpenSpec.ofChange tzifApartSpec)) tzifApartCard

/-- THE TIED CARD OF 'epactlaw24.LocalTells'. -/
def localTellsCard : Claim7 := { stood := { row := localTellsRow, standIns := [], harness := (true, "35a470db3e8ebddad4eea300c88d51d5fc6bc322126da1bb2a8a96779a54ed05"), looks := true }, kinds := [], alts := [], laidByText := true, laidKinds := [.data, .data, .data, .sentinel, .sentinel], laidTests := true, laidLooks := .later }
def LocalTellsCardSaid : Prop := Claim7.holds Tryz.pinned (.plain (OpenSpec.ofChange localTellsSpec)) localTellsCard

/-- THE TIED CARD OF 'epactlaw24.LocalBack'. -/
def localBackCard : Claim7 := { stood := { row := localBackRow, standIns := [], harness := (true, "35a470db3e8ebddad4eea300c88d51d5fc6bc322126da1bb2a8a96779a54ed05"), looks := true }, kinds := [], alts := [], laidByText := true, laidKinds := [.data, .data, .data, .sentinel, .sentinel], laidTests := true, laidLooks := .later }
def LocalBackCardSaid : Prop := Claim7.holds Tryz.pinned (.plain (OpenSpec.ofChange localBackSpec)) localBackCard

/-- THE TIED CARD OF 'epactlaw24.LocalTexts'. -/
def localTextsCard : Claim7 := { stood := { row := localTextsRow, standIns := [], harness := (true, "35a470db3e8ebddad4eea300c88d51d5fc6bc322126da1bb2a8a96779a54ed05"), looks := true }, kinds := [], alts := [], laidByText := true, laidKinds := [.data, .data, .data, .sentinel, .sentinel], laidTests := true, laidLooks := .later }
def LocalTextsCardSaid : Prop := Claim7.holds Tryz.pinned (.plain (OpenSpec.ofChange localTextsSpec)) localTextsCard

/-- THE TIED CARD OF 'epactlaw24.LocalSixty'. -/
def localSixtyCard : Claim7 := { stood := { row := localSixtyRow, standIns := [], harness := (true, "35a470db3e8ebddad4eea300c88d51d5fc6bc322126da1bb2a8a96779a54ed05"), looks := true }, kinds := [], alts := [], laidByText := true, laidKinds := [.data, .data, .data, .sentinel, .sentinel], laidTests := true, laidLooks := .later }
def LocalSixtyCardSaid : Prop := Claim7.holds Tryz.pinned (.plain (OpenSpec.ofChange localSixtySpec)) localSixtyCard

/-- THE TIED CARD OF 'epactlaw24.LocalUtc'. -/
def localUtcCard : Claim7 := { stood := { row := localUtcRow, standIns := [], harness := (true, "35a470db3e8ebddad4eea300c88d51d5fc6bc322126da1bb2a8a96779a54ed05"), looks := true }, kinds := [], alts := [], laidByText := true, laidKinds := [.data, .data, .data, .sentinel, .sentinel], laidTests := true, laidLooks := .later }
def LocalUtcCardSaid : Prop := Claim7.holds Tryz.pinned (.plain (OpenSpec.ofChange localUtcSpec)) localUtcCard

/-- THE TIED CARD OF 'epactlaw19.ZoneTells'. -/
def zoneTellsCard : Claim7 := { stood := { row := zoneTellsRow, standIns := [], harness := (true, "35a470db3e8ebddad4eea300c88d51d5fc6bc322126da1bb2a8a96779a54ed05"), looks := true }, kinds := [], alts := [], laidByText := true, laidKinds := [.data, .data, .data, .sentinel, .sentinel], laidTests := true, laidLooks := .later }
def ZoneTellsCardSaid : Prop := Claim7.holds Tryz.pinned (.plain (OpenSpec.ofChange zoneTellsSpec)) zoneTellsCard

/-- THE TIED CARD OF 'epactlaw19.ZoneBytes'. -/
def zoneBytesCard : Claim7 := { stood := { row := zoneBytesRow, standIns := [], harness := (true, "35a470db3e8ebddad4eea300c88d51d5fc6bc322126da1bb2a8a96779a54ed05"), looks := true }, kinds := [], alts := [], laidByText := true, laidKinds := [.data, .data, .data, .sentinel, .sentinel], laidTests := true, laidLooks := .later }
def ZoneBytesCardSaid : Prop := Claim7.holds Tryz.pinned (.plain (OpenSpec.ofChange zoneBytesSpec)) zoneBytesCard

/-- THE SECOND FORM's CARD OF 'epactlaw21.RightTells'. -/
def rightTellsUptoCard : Claim7 := { stood := { row := rightTellsUptoRow, standIns := [], harness := (true, "35a470db3e8ebddad4eea300c88d51d5fc6bc322126da1bb2a8a96779a54ed05"), looks := true }, kinds := [], alts := [], laidByText := true, laidKinds := [.data, .data, .data, .sentinel, .sentinel], laidTests := true, laidLooks := .later }
def RightTellsUptoCardSaid : Prop := Claim7.holds Tryz.pinned (.plain (OpenSpec.upto rightTellsSpec)) rightTellsUptoCard

/-- THE SECOND FORM's CARD OF 'epactlaw21.RightHolds'. -/
def rightHoldsUptoCard : Claim7 := { stood := { row := rightHoldsUptoRow, standIns := [], harness := (true, "35a470db3e8ebddad4eea300c88d51d5fc6bc322126da1bb2a8a96779a54ed05"), looks := true }, kinds := [], alts := [], laidByText := true, laidKinds := [.data, .data, .data, .sentinel, .sentinel], laidTests := true, laidLooks := .later }
def RightHoldsUptoCardSaid : Prop := Claim7.holds Tryz.pinned (.plain (OpenSpec.upto rightHoldsSpec)) rightHoldsUptoCard

/-- THE SECOND FORM's CARD OF 'epactlaw21.RightRolls'. -/
def rightRollsUptoCard : Claim7 := { stood := { row := rightRollsUptoRow, standIns := [], harness := (true, "35a470db3e8ebddad4eea300c88d51d5fc6bc322126da1bb2a8a96779a54ed05"), looks := true }, kinds := [], alts := [], laidByText := true, laidKinds := [.data, .data, .data, .sentinel, .sentinel], laidTests := true, laidLooks := .later }
def RightRollsUptoCardSaid : Prop := Claim7.holds Tryz.pinned (.plain (OpenSpec.upto rightRollsSpec)) rightRollsUptoCard

/-- THE SECOND FORM's CARD OF 'epactlaw21.RightShifts'. -/
def rightShiftsUptoCard : Claim7 := { stood := { row := rightShiftsUptoRow, standIns := [], harness := (true, "35a470db3e8ebddad4eea300c88d51d5fc6bc322126da1bb2a8a96779a54ed05"), looks := true }, kinds := [], alts := [], laidByText := true, laidKinds := [.data, .data, .data, .sentinel, .sentinel], laidTests := true, laidLooks := .later }
def RightShiftsUptoCardSaid : Prop := Claim7.holds Tryz.pinned (.plain (OpenSpec.upto rightShiftsSpec)) rightShiftsUptoCard

/-- THE SECOND FORM's CARD OF 'epactlaw21.RightCuts'. -/
def rightCutsUptoCard : Claim7 := { stood := { row := rightCutsUptoRow, standIns := [], harness := (true, "35a470db3e8ebddad4eea300c88d51d5fc6bc322126da1bb2a8a96779a54ed05"), looks := true }, kinds := [], alts := [], laidByText := true, laidKinds := [.data, .data, .data, .sentinel, .sentinel], laidTests := true, laidLooks := .later }
def RightCutsUptoCardSaid : Prop := Claim7.holds Tryz.pinned (.plain (OpenSpec.upto rightCutsSpec)) rightCutsUptoCard

/-- THE SECOND FORM's CARD OF 'epactlaw21.RightPlain'. -/
def rightPlainUptoCard : Claim7 := { stood := { row := rightPlainUptoRow, standIns := [], harness := (true, "35a470db3e8ebddad4eea300c88d51d5fc6bc322126da1bb2a8a96779a54ed05"), looks := true }, kinds := [], alts := [], laidByText := true, laidKinds := [.data, .data, .data, .sentinel, .sentinel], laidTests := true, laidLooks := .later }
def RightPlainUptoCardSaid : Prop := Claim7.holds Tryz.pinned (.plain (OpenSpec.upto rightPlainSpec)) rightPlainUptoCard

/-- THE SECOND FORM's CARD OF 'epactlaw20.TzifTells'. -/
def tzifTellsUptoCard : Claim7 := { stood := { row := tzifTellsUptoRow, standIns := [], harness := (true, "35a470db3e8ebddad4eea300c88d51d5fc6bc322126da1bb2a8a96779a54ed05"), looks := true }, kinds := [], alts := [], laidByText := true, laidKinds := [.data, .data, .data, .sentinel, .sentinel], laidTests := true, laidLooks := .later }
def TzifTellsUptoCardSaid : Prop := Claim7.holds Tryz.pinned (.plain (OpenSpec.upto tzifTellsSpec)) tzifTellsUptoCard

/-- THE SECOND FORM's CARD OF 'epactlaw20.TzifBack'. -/
def tzifBackUptoCard : Claim7 := { stood := { row := tzifBackUptoRow, standIns := [], harness := (true, "35a470db3e8ebddad4eea300c88d51d5fc6bc322126da1bb2a8a96779a54ed05"), looks := true }, kinds := [], alts := [], laidByText := true, laidKinds := [.data, .data, .data, .sentinel, .sentinel], laidTests := true, laidLooks := .later }
def TzifBackUptoCardSaid : Prop := Claim7.holds Tryz.pinned (.plain (OpenSpec.upto tzifBackSpec)) tzifBackUptoCard

/-- THE SECOND FORM's CARD OF 'epactlaw20.TzifRight'. -/
def tzifRightUptoCard : Claim7 := { stood := { row := tzifRightUptoRow, standIns := [], harness := (true, "35a470db3e8ebddad4eea300c88d51d5fc6bc322126da1bb2a8a96779a54ed05"), looks := true }, kinds := [], alts := [], laidByText := true, laidKinds := [.data, .data, .data, .sentinel, .sentinel], laidTests := true, laidLooks := .later }
def TzifRightUptoCardSaid : Prop := Claim7.holds Tryz.pinned (.plain (OpenSpec.upto tzifRightSpec)) tzifRightUptoCard

/-- THE SECOND FORM's CARD OF 'epactlaw20.TzifShort'. -/
def tzifShortUptoCard : Claim7 := { stood := { row := tzifShortUptoRow, standIns := [], harness := (true, "35a470db3e8ebddad4eea300c88d51d5fc6bc322126da1bb2a8a96779a54ed05"), looks := true }, kinds := [], alts := [], laidByText := true, laidKinds := [.data, .data, .data, .sentinel, .sentinel], laidTests := true, laidLooks := .later }
def TzifShortUptoCardSaid : Prop := Claim7.holds Tryz.pinned (.plain (OpenSpec.upto tzifShortSpec)) tzifShortUptoCard

/-- THE SECOND FORM's CARD OF 'epactlaw20.TzifVersions'. -/
def tzifVersionsUptoCard : Claim7 := { stood := { row := tzifVersionsUptoRow, standIns := [], harness := (true, "35a470db3e8ebddad4eea300c88d51d5fc6bc322126da1bb2a8a96779a54ed05"), looks := true }, kinds := [], alts := [], laidByText := true, laidKinds := [.data, .data, .data, .sentinel, .sentinel], laidTests := true, laidLooks := .later }
def TzifVersionsUptoCardSaid : Prop := Claim7.holds Tryz.pinned (.plain (OpenSpec.upto tzifVersionsSpec)) tzifVersionsUptoCard

/-- THE SECOND FORM's CARD OF 'epactlaw20.TzifApart'. -/
def tzifApartUptoCard : Claim7 := { stood := { row := tzifApartUptoRow, standIns := [], harness := (true, "35a470db3e8ebddad4eea300c88d51d5fc6bc322126da1bb2a8a96779a54ed05"), looks := true }, kinds := [], alts := [], laidByText := true, laidKinds := [.data, .data, .data, .sentinel, .sentinel], laidTests := true, laidLooks := .later }
def TzifApartUptoCardSaid : Prop := Claim7.holds Tryz.pinned (.plain (OpenSpec.upto tzifApartSpec)) tzifApartUptoCard

/-- THE SECOND FORM's CARD OF 'epactlaw24.LocalTells'. -/
def localTellsUptoCard : Claim7 := { stood := { row := localTellsUptoRow, standIns := [], harness := (true, "35a470db3e8ebddad4eea300c88d51d5fc6bc322126da1bb2a8a96779a54ed05"), looks := true }, kinds := [], alts := [], laidByText := true, laidKinds := [.data, .data, .data, .sentinel, .sentinel], laidTests := true, laidLooks := .later }
def LocalTellsUptoCardSaid : Prop := Claim7.holds Tryz.pinned (.plain (OpenSpec.upto localTellsSpec)) localTellsUptoCard

/-- THE SECOND FORM's CARD OF 'epactlaw24.LocalBack'. -/
def localBackUptoCard : Claim7 := { stood := { row := localBackUptoRow, standIns := [], harness := (true, "35a470db3e8ebddad4eea300c88d51d5fc6bc322126da1bb2a8a96779a54ed05"), looks := true }, kinds := [], alts := [], laidByText := true, laidKinds := [.data, .data, .data, .sentinel, .sentinel], laidTests := true, laidLooks := .later }
def LocalBackUptoCardSaid : Prop := Claim7.holds Tryz.pinned (.plain (OpenSpec.upto localBackSpec)) localBackUptoCard

/-- THE SECOND FORM's CARD OF 'epactlaw24.LocalTexts'. -/
def localTextsUptoCard : Claim7 := { stood := { row := localTextsUptoRow, standIns := [], harness := (true, "35a470db3e8ebddad4eea300c88d51d5fc6bc322126da1bb2a8a96779a54ed05"), looks := true }, kinds := [], alts := [], laidByText := true, laidKinds := [.data, .data, .data, .sentinel, .sentinel], laidTests := true, laidLooks := .later }
def LocalTextsUptoCardSaid : Prop := Claim7.holds Tryz.pinned (.plain (OpenSpec.upto localTextsSpec)) localTextsUptoCard

/-- THE SECOND FORM's CARD OF 'epactlaw24.LocalSixty'. -/
def localSixtyUptoCard : Claim7 := { stood := { row := localSixtyUptoRow, standIns := [], harness := (true, "35a470db3e8ebddad4eea300c88d51d5fc6bc322126da1bb2a8a96779a54ed05"), looks := true }, kinds := [], alts := [], laidByText := true, laidKinds := [.data, .data, .data, .sentinel, .sentinel], laidTests := true, laidLooks := .later }
def LocalSixtyUptoCardSaid : Prop := Claim7.holds Tryz.pinned (.plain (OpenSpec.upto localSixtySpec)) localSixtyUptoCard

/-- THE SECOND FORM's CARD OF 'epactlaw24.LocalUtc'. -/
def localUtcUptoCard : Claim7 := { stood := { row := localUtcUptoRow, standIns := [], harness := (true, "35a470db3e8ebddad4eea300c88d51d5fc6bc322126da1bb2a8a96779a54ed05"), looks := true }, kinds := [], alts := [], laidByText := true, laidKinds := [.data, .data, .data, .sentinel, .sentinel], laidTests := true, laidLooks := .later }
def LocalUtcUptoCardSaid : Prop := Claim7.holds Tryz.pinned (.plain (OpenSpec.upto localUtcSpec)) localUtcUptoCard

/-- THE SECOND FORM's CARD OF 'epactlaw19.ZoneTells'. -/
def zoneTellsUptoCard : Claim7 := { stood := { row := zoneTellsUptoRow, standIns := [], harness := (true, "35a470db3e8ebddad4eea300c88d51d5fc6bc322126da1bb2a8a96779a54ed05"), looks := true }, kinds := [], alts := [], laidByText := true, laidKinds := [.data, .data, .data, .sentinel, .sentinel], laidTests := true, laidLooks := .later }
def ZoneTellsUptoCardSaid : Prop := Claim7.holds Tryz.pinned (.plain (OpenSpec.upto zoneTellsSpec)) zoneTellsUptoCard

/-- THE SECOND FORM's CARD OF 'epactlaw19.ZoneBytes'. -/
def zoneBytesUptoCard : Claim7 := { stood := { row := zoneBytesUptoRow, standIns := [], harness := (true, "35a470db3e8ebddad4eea300c88d51d5fc6bc322126da1bb2a8a96779a54ed05"), looks := true }, kinds := [], alts := [], laidByText := true, laidKinds := [.data, .data, .data, .sentinel, .sentinel], laidTests := true, laidLooks := .later }
def ZoneBytesUptoCardSaid : Prop := Claim7.holds Tryz.pinned (.plain (OpenSpec.upto zoneBytesSpec)) zoneBytesUptoCard
end Rows
end Go.Proofs.YtenaflbcnkalbaaGreatDoor
