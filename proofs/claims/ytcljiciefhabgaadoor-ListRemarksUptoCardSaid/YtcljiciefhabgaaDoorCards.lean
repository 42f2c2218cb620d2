/-
  DERIVED. GIVEN WITH THE SEED: THE CARDS: each row of YtcljiciefhabgaaDoorRows.lean that lists a variable, with what it lists TIED to the program's text (the seventh form; the later family's looks); each row that meets fmt, with fmt's text TOLD by the authors' own Lean function (tested against real Go, not proved from fmt's source: count such statements apart). THE CARD IS WHAT COUNTS. Prove the row's statement (the work); the ties are given (YtcljiciefhabgaaDoorTie.lean); close each card by the builder's one call (the guide's Derived/Test/ToyasCard.lean, 'card_holds'). Laid BY PROGRAM, IN A SANDBOX (cutbox-door.mjs). By AI agents, Wed Nov 11 2026. No macro, syntax, notation, axiom, sorry.
-/
import Derived.Test.YtcljiciefhabgaaDoorRows
import GoSem.ClaimSeven
namespace Go.Proofs.YtcljiciefhabgaaDoor
namespace Rows

/-- THE TIED CARD OF 'epactlaw10.ListBack'. -/
def listBackCard : Claim7 := { stood := { row := listBackRow, standIns := [], harness := (true, "45bd0d4ae8968e9542c8584594e15b909071ee20f10842d032f5eaad04f76b83"), looks := false }, kinds := [], alts := [], laidByText := true, laidKinds := [.data, .data, .data, .data, .pinned], laidTests := true, laidLooks := .later }
def ListBackCardSaid : Prop := Claim7.holds Tryd.pinned (.plain (OpenSpec.ofChange listBackSpec)) listBackCard

/-- THE TIED CARD OF 'epactlaw10.ListRight'. -/
def listRightCard : Claim7 := { stood := { row := listRightRow, standIns := [], harness := (true, "45bd0d4ae8968e9542c8584594e15b909071ee20f10842d032f5eaad04f76b83"), looks := false }, kinds := [], alts := [], laidByText := true, laidKinds := [.data, .data, .data, .data, .pinned], laidTests := true, laidLooks := .later }
def ListRightCardSaid : Prop := Claim7.holds Tryd.pinned (.plain (OpenSpec.ofChange listRightSpec)) listRightCard

/-- THE TIED CARD OF 'epactlaw10.ListRemarks'. -/
def listRemarksCard : Claim7 := { stood := { row := listRemarksRow, standIns := [], harness := (true, "45bd0d4ae8968e9542c8584594e15b909071ee20f10842d032f5eaad04f76b83"), looks := false }, kinds := [], alts := [], laidByText := true, laidKinds := [.data, .data, .data, .data, .pinned], laidTests := true, laidLooks := .later }
def ListRemarksCardSaid : Prop := Claim7.holds Tryd.pinned (.plain (OpenSpec.ofChange listRemarksSpec)) listRemarksCard

/-- THE TIED CARD OF 'epactlaw10.ListHashes'. -/
def listHashesCard : Claim7 := { stood := { row := listHashesRow, standIns := [], harness := (true, "45bd0d4ae8968e9542c8584594e15b909071ee20f10842d032f5eaad04f76b83"), looks := false }, kinds := [], alts := [], laidByText := true, laidKinds := [.data, .data, .data, .data, .pinned], laidTests := true, laidLooks := .later }
def ListHashesCardSaid : Prop := Claim7.holds Tryd.pinned (.plain (OpenSpec.ofChange listHashesSpec)) listHashesCard

/-- THE SECOND FORM's CARD OF 'epactlaw10.ListBack'. -/
def listBackUptoCard : Claim7 := { stood := { row := listBackUptoRow, standIns := [], harness := (true, "45bd0d4ae8968e9542c8584594e15b909071ee20f10842d032f5eaad04f76b83"), looks := false }, kinds := [], alts := [], laidByText := true, laidKinds := [.data, .data, .data, .data, .pinned], laidTests := true, laidLooks := .later }
def ListBackUptoCardSaid : Prop := Claim7.holds Tryd.pinned (.plain (OpenSpec.upto listBackSpec)) listBackUptoCard

/-- THE SECOND FORM's CARD OF 'epactlaw10.ListRight'. -/
def listRightUptoCard : Claim7 := { stood := { row := listRightUptoRow, standIns := [], harness := (true, "45bd0d4ae8968e9542c8584594e15b909071ee20f10842d032f5eaad04f76b83"), looks := false }, kinds := [], alts := [], laidByText := true, laidKinds := [.data, .data, .data, .data, .pinned], laidTests := true, laidLooks := .later }
def ListRightUptoCardSaid : Prop := Claim7.holds Tryd.pinned (.plain (OpenSpec.upto listRightSpec)) listRightUptoCard

/-- THE SECOND FORM's CARD OF 'epactlaw10.ListRemarks'. -/
def listRemarksUptoCard : Claim7 := { stood := { row := listRemarksUptoRow, standIns := [], harness := (true, "45bd0d4ae8968e9542c8584594e15b909071ee20f10842d032f5eaad04f76b83"), looks := false }, kinds := [], alts := [], laidByText := true, laidKinds := [.data, .data, .data, .data, .pinned], laidTests := true, laidLooks := .later }
def ListRemarksUptoCardSaid : Prop := Claim7.holds Tryd.pinned (.plain (OpenSpec.upto listRemarksSpec)) listRemarksUptoCard

/-- THE SECOND FORM's CARD OF 'epactlaw10.ListHashes'. -/
def listHashesUptoCard : Claim7 := { stood := { row := listHashesUptoRow, standIns := [], harness := (true, "45bd0d4ae8968e9542c8584594e15b909071ee20f10842d032f5eaad04f76b83"), looks := false }, kinds := [], alts := [], laidByText := true, laidKinds := [.data, .data, .data, .data, .pinned], laidTests := true, laidLooks := .later }
def ListHashesUptoCardSaid : Prop := Claim7.holds Tryd.pinned (.plain (OpenSpec.upto listHashesSpec)) listHashesUptoCard
end Rows
end Go.Proofs.YtcljiciefhabgaaDoor
