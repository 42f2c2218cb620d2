/-
  DERIVED. GIVEN WITH THE SEED: THE CARDS: each row of YtcopbcfekmbhlaaDoorRows.lean that lists a variable, with what it lists TIED to the program's text (the seventh form; the later family's looks); each row that meets fmt, with fmt's text TOLD by the authors' own Lean function (tested against real Go, not proved from fmt's source: count such statements apart). THE CARD IS WHAT COUNTS. Prove the row's statement (the work); the ties are given (YtcopbcfekmbhlaaDoorTie.lean); close each card by the builder's one call (the guide's Derived/Test/ToyasCard.lean, 'card_holds'). Laid BY PROGRAM, IN A SANDBOX (cutbox-door.mjs). By AI agents, Wed Nov 11 2026. No macro, syntax, notation, axiom, sorry.
-/
import Derived.Test.YtcopbcfekmbhlaaDoorRows
import GoSem.ClaimSeven
namespace Go.Proofs.YtcopbcfekmbhlaaDoor
namespace Rows

/-- THE TIED CARD OF 'epactlaw18.FootBack'. -/
def footBackCard : Claim7 := { stood := { row := footBackRow, standIns := [], harness := (true, "431aee8049cb85cb28326a4339f4626921b2684dbfc7fff95df6a8cb4db36183"), looks := true }, kinds := [], alts := [], laidByText := true, laidKinds := [.data, .data, .data, .sentinel, .sentinel], laidTests := true, laidLooks := .later }
def FootBackCardSaid : Prop := Claim7.holds Tryd.pinned (.plain (OpenSpec.ofChange footBackSpec)) footBackCard

/-- THE TIED CARD OF 'epactlaw18.FootHolds'. -/
def footHoldsCard : Claim7 := { stood := { row := footHoldsRow, standIns := [], harness := (true, "431aee8049cb85cb28326a4339f4626921b2684dbfc7fff95df6a8cb4db36183"), looks := true }, kinds := [], alts := [], laidByText := true, laidKinds := [.data, .data, .data, .sentinel, .sentinel], laidTests := true, laidLooks := .later }
def FootHoldsCardSaid : Prop := Claim7.holds Tryd.pinned (.plain (OpenSpec.ofChange footHoldsSpec)) footHoldsCard

/-- THE TIED CARD OF 'epactlaw18.FootSpans'. -/
def footSpansCard : Claim7 := { stood := { row := footSpansRow, standIns := [], harness := (true, "431aee8049cb85cb28326a4339f4626921b2684dbfc7fff95df6a8cb4db36183"), looks := true }, kinds := [], alts := [], laidByText := true, laidKinds := [.data, .data, .data, .sentinel, .sentinel], laidTests := true, laidLooks := .later }
def FootSpansCardSaid : Prop := Claim7.holds Tryd.pinned (.plain (OpenSpec.ofChange footSpansSpec)) footSpansCard

/-- THE TIED CARD OF 'epactlaw18.FootPlain'. -/
def footPlainCard : Claim7 := { stood := { row := footPlainRow, standIns := [], harness := (true, "431aee8049cb85cb28326a4339f4626921b2684dbfc7fff95df6a8cb4db36183"), looks := true }, kinds := [], alts := [], laidByText := true, laidKinds := [.data, .data, .data, .sentinel, .sentinel], laidTests := true, laidLooks := .later }
def FootPlainCardSaid : Prop := Claim7.holds Tryd.pinned (.plain (OpenSpec.ofChange footPlainSpec)) footPlainCard

/-- THE SECOND FORM's CARD OF 'epactlaw18.FootBack'. -/
def footBackUptoCard : Claim7 := { stood := { row := footBackUptoRow, standIns := [], harness := (true, "431aee8049cb85cb28326a4339f4626921b2684dbfc7fff95df6a8cb4db36183"), looks := true }, kinds := [], alts := [], laidByText := true, laidKinds := [.data, .data, .data, .sentinel, .sentinel], laidTests := true, laidLooks := .later }
def FootBackUptoCardSaid : Prop := Claim7.holds Tryd.pinned (.plain (OpenSpec.upto footBackSpec)) footBackUptoCard

/-- THE SECOND FORM's CARD OF 'epactlaw18.FootHolds'. -/
def footHoldsUptoCard : Claim7 := { stood := { row := footHoldsUptoRow, standIns := [], harness := (true, "431aee8049cb85cb28326a4339f4626921b2684dbfc7fff95df6a8cb4db36183"), looks := true }, kinds := [], alts := [], laidByText := true, laidKinds := [.data, .data, .data, .sentinel, .sentinel], laidTests := true, laidLooks := .later }
def FootHoldsUptoCardSaid : Prop := Claim7.holds Tryd.pinned (.plain (OpenSpec.upto footHoldsSpec)) footHoldsUptoCard

/-- THE SECOND FORM's CARD OF 'epactlaw18.FootSpans'. -/
def footSpansUptoCard : Claim7 := { stood := { row := footSpansUptoRow, standIns := [], harness := (true, "431aee8049cb85cb28326a4339f4626921b2684dbfc7fff95df6a8cb4db36183"), looks := true }, kinds := [], alts := [], laidByText := true, laidKinds := [.data, .data, .data, .sentinel, .sentinel], laidTests := true, laidLooks := .later }
def FootSpansUptoCardSaid : Prop := Claim7.holds Tryd.pinned (.plain (OpenSpec.upto footSpansSpec)) footSpansUptoCard

/-- THE SECOND FORM's CARD OF 'epactlaw18.FootPlain'. -/
def footPlainUptoCard : Claim7 := { stood := { row := footPlainUptoRow, standIns := [], harness := (true, "431aee8049cb85cb28326a4339f4626921b2684dbfc7fff95df6a8cb4db36183"), looks := true }, kinds := [], alts := [], laidByText := true, laidKinds := [.data, .data, .data, .sentinel, .sentinel], laidTests := true, laidLooks := .later }
def FootPlainUptoCardSaid : Prop := Claim7.holds Tryd.pinned (.plain (OpenSpec.upto footPlainSpec)) footPlainUptoCard
end Rows
end Go.Proofs.YtcopbcfekmbhlaaDoor
