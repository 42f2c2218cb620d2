/-
  DERIVED. GIVEN WITH THE SEED: THE CARDS: each row of YtcopbcfekmbhlaaGreatDoorRows.lean that lists a variable, with what it lists TIED to the program's text (the seventh form; the later family's looks); each row that meets fmt, with fmt's text TOLD by the authors' own Lean function (tested against real Go, not proved from fmt's source: count such statements apart). THE CARD IS WHAT COUNTS. Prove the row's statement (the work); the ties are given (YtcopbcfekmbhlaaGreatDoorTie.lean); close each card by the builder's one call (the guide's Derived/Test/ToyasCard.lean, 'card_holds'). Laid BY PROGRAM, IN A SANDBOX (cutbox-door.mjs). By AI agents, Wed Nov 11 2026. No macro, syntax, notation, axiom, sorry.
-/
import Derived.Test.YtcopbcfekmbhlaaGreatDoorRows
import GoSem.ClaimSeven
namespace Go.Proofs.YtcopbcfekmbhlaaGreatDoor
namespace Rows

/-- THE TIED CARD OF 'epactlaw18.FootTells'. -/
def footTellsCard : Claim7 := { stood := { row := footTellsRow, standIns := [], harness := (true, "9aeb28816afd7b6773e1276c86e38bbb11c8376ca0e3a534fc88da57aaaae06f"), looks := true }, kinds := [], alts := [], laidByText := true, laidKinds := [.data, .data, .data, .sentinel, .sentinel], laidTests := true, laidLooks := .later }
def FootTellsCardSaid : Prop := Claim7.holds Tryz.pinned (.plain (OpenSpec.ofChange footTellsSpec)) footTellsCard

/-- THE SECOND FORM's CARD OF 'epactlaw18.FootTells'. -/
def footTellsUptoCard : Claim7 := { stood := { row := footTellsUptoRow, standIns := [], harness := (true, "9aeb28816afd7b6773e1276c86e38bbb11c8376ca0e3a534fc88da57aaaae06f"), looks := true }, kinds := [], alts := [], laidByText := true, laidKinds := [.data, .data, .data, .sentinel, .sentinel], laidTests := true, laidLooks := .later }
def FootTellsUptoCardSaid : Prop := Claim7.holds Tryz.pinned (.plain (OpenSpec.upto footTellsSpec)) footTellsUptoCard
end Rows
end Go.Proofs.YtcopbcfekmbhlaaGreatDoor
