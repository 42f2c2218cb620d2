/-
  DERIVED. GIVEN WITH THE SEED: THE CARDS: each row of YtdjldmolhkkipaaGreatDoorRows.lean that lists a variable, with what it lists TIED to the program's text (the seventh form; the later family's looks); each row that meets fmt, with fmt's text TOLD by the authors' own Lean function (tested against real Go, not proved from fmt's source: count such statements apart). THE CARD IS WHAT COUNTS. Prove the row's statement (the work); the ties are given (YtdjldmolhkkipaaGreatDoorTie.lean); close each card by the builder's one call (the guide's Derived/Test/ToyasCard.lean, 'card_holds'). Laid BY PROGRAM, IN A SANDBOX (cutbox-door.mjs). By AI agents, Wed Nov 11 2026. No macro, syntax, notation, axiom, sorry.
-/
import Derived.Test.YtdjldmolhkkipaaGreatDoorRows
import GoSem.ClaimSeven
namespace Go.Proofs.YtdjldmolhkkipaaGreatDoor
namespace Rows

/-- THE TIED CARD OF 'epactlaw10.ListTells'. -/
def listTellsCard : Claim7 := { stood := { row := listTellsRow, standIns := [], harness := (true, "43e4d049025f0c88a6702a82cc41fce696d3051669739b64ed9718935ab263e7"), looks := false }, kinds := [], alts := [], laidByText := true, laidKinds := [.data, .data, .data, .data, .pinned], laidTests := true, laidLooks := .later }
def ListTellsCardSaid : Prop := Claim7.holds Tryz.pinned (.plain (OpenSpec.ofChange listTellsSpec)) listTellsCard

/-- THE TIED CARD OF 'epactlaw11.ZicLists'. -/
def zicListsCard : Claim7 := { stood := { row := zicListsRow, standIns := [], harness := (true, "43e4d049025f0c88a6702a82cc41fce696d3051669739b64ed9718935ab263e7"), looks := false }, kinds := [], alts := [], laidByText := true, laidKinds := [.data, .data, .data, .data, .pinned], laidTests := true, laidLooks := .later }
def ZicListsCardSaid : Prop := Claim7.holds Tryz.pinned (.plain (OpenSpec.ofChange zicListsSpec)) zicListsCard

/-- THE SECOND FORM's CARD OF 'epactlaw10.ListTells'. -/
def listTellsUptoCard : Claim7 := { stood := { row := listTellsUptoRow, standIns := [], harness := (true, "43e4d049025f0c88a6702a82cc41fce696d3051669739b64ed9718935ab263e7"), looks := false }, kinds := [], alts := [], laidByText := true, laidKinds := [.data, .data, .data, .data, .pinned], laidTests := true, laidLooks := .later }
def ListTellsUptoCardSaid : Prop := Claim7.holds Tryz.pinned (.plain (OpenSpec.upto listTellsSpec)) listTellsUptoCard

/-- THE SECOND FORM's CARD OF 'epactlaw11.ZicLists'. -/
def zicListsUptoCard : Claim7 := { stood := { row := zicListsUptoRow, standIns := [], harness := (true, "43e4d049025f0c88a6702a82cc41fce696d3051669739b64ed9718935ab263e7"), looks := false }, kinds := [], alts := [], laidByText := true, laidKinds := [.data, .data, .data, .data, .pinned], laidTests := true, laidLooks := .later }
def ZicListsUptoCardSaid : Prop := Claim7.holds Tryz.pinned (.plain (OpenSpec.upto zicListsSpec)) zicListsUptoCard
end Rows
end Go.Proofs.YtdjldmolhkkipaaGreatDoor
