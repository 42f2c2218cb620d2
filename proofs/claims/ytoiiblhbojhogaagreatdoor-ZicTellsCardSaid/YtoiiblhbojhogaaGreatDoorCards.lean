/-
  DERIVED. GIVEN WITH THE SEED: THE CARDS: each row of YtoiiblhbojhogaaGreatDoorRows.lean that lists a variable, with what it lists TIED to the program's text (the seventh form; the later family's looks); each row that meets fmt, with fmt's text TOLD by the authors' own Lean function (tested against real Go, not proved from fmt's source: count such statements apart). THE CARD IS WHAT COUNTS. Prove the row's statement (the work); the ties are given (YtoiiblhbojhogaaGreatDoorTie.lean); close each card by the builder's one call (the guide's Derived/Test/ToyasCard.lean, 'card_holds'). Laid BY PROGRAM, IN A SANDBOX (cutbox-door.mjs). By AI agents, Wed Nov 11 2026. No macro, syntax, notation, axiom, sorry.
-/
import Derived.Test.YtoiiblhbojhogaaGreatDoorRows
import GoSem.ClaimSeven
namespace Go.Proofs.YtoiiblhbojhogaaGreatDoor
namespace Rows

/-- THE TIED CARD OF 'epactlaw11.ZicTells'. -/
def zicTellsCard : Claim7 := { stood := { row := zicTellsRow, standIns := [], harness := (true, "cadac932a058a16452dcebe22334b8e8db52e5b4247f43b26e84589dbf643f3e"), looks := false }, kinds := [], alts := [], laidByText := true, laidKinds := [.data, .data, .data, .data, .pinned], laidTests := true, laidLooks := .later }
def ZicTellsCardSaid : Prop := Claim7.holds Tryz.pinned (.plain (OpenSpec.ofChange zicTellsSpec)) zicTellsCard

/-- THE TIED CARD OF 'epactlaw10.ListTells'. -/
def listTellsCard : Claim7 := { stood := { row := listTellsRow, standIns := [], harness := (true, "cadac932a058a16452dcebe22334b8e8db52e5b4247f43b26e84589dbf643f3e"), looks := false }, kinds := [], alts := [], laidByText := true, laidKinds := [.data, .data, .data, .data, .pinned], laidTests := true, laidLooks := .later }
def ListTellsCardSaid : Prop := Claim7.holds Tryz.pinned (.plain (OpenSpec.ofChange listTellsSpec)) listTellsCard

/-- THE TIED CARD OF 'epactlaw11.ZicLists'. -/
def zicListsCard : Claim7 := { stood := { row := zicListsRow, standIns := [], harness := (true, "cadac932a058a16452dcebe22334b8e8db52e5b4247f43b26e84589dbf643f3e"), looks := false }, kinds := [], alts := [], laidByText := true, laidKinds := [.data, .data, .data, .data, .pinned], laidTests := true, laidLooks := .later }
def ZicListsCardSaid : Prop := Claim7.holds Tryz.pinned (.plain (OpenSpec.ofChange zicListsSpec)) zicListsCard

/-- THE SECOND FORM's CARD OF 'epactlaw11.ZicTells'. -/
def zicTellsUptoCard : Claim7 := { stood := { row := zicTellsUptoRow, standIns := [], harness := (true, "cadac932a058a16452dcebe22334b8e8db52e5b4247f43b26e84589dbf643f3e"), looks := false }, kinds := [], alts := [], laidByText := true, laidKinds := [.data, .data, .data, .data, .pinned], laidTests := true, laidLooks := .later }
def ZicTellsUptoCardSaid : Prop := Claim7.holds Tryz.pinned (.plain (OpenSpec.upto zicTellsSpec)) zicTellsUptoCard

/-- THE SECOND FORM's CARD OF 'epactlaw10.ListTells'. -/
def listTellsUptoCard : Claim7 := { stood := { row := listTellsUptoRow, standIns := [], harness := (true, "cadac932a058a16452dcebe22334b8e8db52e5b4247f43b26e84589dbf643f3e"), looks := false }, kinds := [], alts := [], laidByText := true, laidKinds := [.data, .data, .data, .data, .pinned], laidTests := true, laidLooks := .later }
def ListTellsUptoCardSaid : Prop := Claim7.holds Tryz.pinned (.plain (OpenSpec.upto listTellsSpec)) listTellsUptoCard

/-- THE SECOND FORM's CARD OF 'epactlaw11.ZicLists'. -/
def zicListsUptoCard : Claim7 := { stood := { row := zicListsUptoRow, standIns := [], harness := (true, "cadac932a058a16452dcebe22334b8e8db52e5b4247f43b26e84589dbf643f3e"), looks := false }, kinds := [], alts := [], laidByText := true, laidKinds := [.data, .data, .data, .data, .pinned], laidTests := true, laidLooks := .later }
def ZicListsUptoCardSaid : Prop := Claim7.holds Tryz.pinned (.plain (OpenSpec.upto zicListsSpec)) zicListsUptoCard
end Rows
end Go.Proofs.YtoiiblhbojhogaaGreatDoor
