/-
  DERIVED. GIVEN WITH THE SEED: THE CARDS: each row of YtghjemcbkackjaaDoorRows.lean that lists a variable, with what it lists TIED to the program's text (the seventh form; the later family's looks); each row that meets fmt, with fmt's text TOLD by the authors' own Lean function (tested against real Go, not proved from fmt's source: count such statements apart). THE CARD IS WHAT COUNTS. Prove the row's statement (the work); the ties are given (YtghjemcbkackjaaDoorTie.lean); close each card by the builder's one call (the guide's Derived/Test/ToyasCard.lean, 'card_holds'). Laid BY PROGRAM, IN A SANDBOX (cutbox-door.mjs). By AI agents, Wed Nov 11 2026. No macro, syntax, notation, axiom, sorry.
-/
import Derived.Test.YtghjemcbkackjaaDoorRows
import GoSem.ClaimSeven
namespace Go.Proofs.YtghjemcbkackjaaDoor
namespace Rows

/-- THE TIED CARD OF 'epactlaw08.FaultTells'. -/
def faultTellsCard : Claim7 := { stood := { row := faultTellsRow, standIns := [], harness := (true, "cd56eb1721cfdbd10233006c505c409e2d830ba54e30c7dbc9299dc239ffbf07"), looks := true }, kinds := [], alts := [], laidByText := true, laidKinds := [.data, .data, .data], laidTests := true, laidLooks := .later }
def FaultTellsCardSaid : Prop := Claim7.holds Tryd.pinned (.plain (OpenSpec.ofChange faultTellsSpec)) faultTellsCard

/-- THE TIED CARD OF 'epactlaw08.FaultBack'. -/
def faultBackCard : Claim7 := { stood := { row := faultBackRow, standIns := [], harness := (true, "cd56eb1721cfdbd10233006c505c409e2d830ba54e30c7dbc9299dc239ffbf07"), looks := true }, kinds := [], alts := [], laidByText := true, laidKinds := [.data, .data, .data], laidTests := true, laidLooks := .later }
def FaultBackCardSaid : Prop := Claim7.holds Tryd.pinned (.plain (OpenSpec.ofChange faultBackSpec)) faultBackCard

/-- THE TIED CARD OF 'epactlaw08.FaultFirst'. -/
def faultFirstCard : Claim7 := { stood := { row := faultFirstRow, standIns := [], harness := (true, "cd56eb1721cfdbd10233006c505c409e2d830ba54e30c7dbc9299dc239ffbf07"), looks := true }, kinds := [], alts := [], laidByText := true, laidKinds := [.data, .data, .data], laidTests := true, laidLooks := .later }
def FaultFirstCardSaid : Prop := Claim7.holds Tryd.pinned (.plain (OpenSpec.ofChange faultFirstSpec)) faultFirstCard

/-- THE TIED CARD OF 'epactlaw08.FaultTexts'. -/
def faultTextsCard : Claim7 := { stood := { row := faultTextsRow, standIns := [], harness := (true, "cd56eb1721cfdbd10233006c505c409e2d830ba54e30c7dbc9299dc239ffbf07"), looks := true }, kinds := [], alts := [], laidByText := true, laidKinds := [.data, .data, .data], laidTests := true, laidLooks := .later }
def FaultTextsCardSaid : Prop := Claim7.holds Tryd.pinned (.plain (OpenSpec.ofChange faultTextsSpec)) faultTextsCard

/-- THE TIED CARD OF 'epactlaw17.RuleTells'. -/
def ruleTellsCard : Claim7 := { stood := { row := ruleTellsRow, standIns := [], harness := (true, "cd56eb1721cfdbd10233006c505c409e2d830ba54e30c7dbc9299dc239ffbf07"), looks := true }, kinds := [], alts := [], laidByText := true, laidKinds := [.data, .data, .data, .sentinel, .sentinel], laidTests := true, laidLooks := .later }
def RuleTellsCardSaid : Prop := Claim7.holds Tryd.pinned (.plain (OpenSpec.ofChange ruleTellsSpec)) ruleTellsCard

/-- THE TIED CARD OF 'epactlaw17.RuleBack'. -/
def ruleBackCard : Claim7 := { stood := { row := ruleBackRow, standIns := [], harness := (true, "cd56eb1721cfdbd10233006c505c409e2d830ba54e30c7dbc9299dc239ffbf07"), looks := true }, kinds := [], alts := [], laidByText := true, laidKinds := [.data, .data, .data, .sentinel, .sentinel], laidTests := true, laidLooks := .later }
def RuleBackCardSaid : Prop := Claim7.holds Tryd.pinned (.plain (OpenSpec.ofChange ruleBackSpec)) ruleBackCard

/-- THE TIED CARD OF 'epactlaw17.RuleTimes'. -/
def ruleTimesCard : Claim7 := { stood := { row := ruleTimesRow, standIns := [], harness := (true, "cd56eb1721cfdbd10233006c505c409e2d830ba54e30c7dbc9299dc239ffbf07"), looks := true }, kinds := [], alts := [], laidByText := true, laidKinds := [.data, .data, .data, .sentinel, .sentinel], laidTests := true, laidLooks := .later }
def RuleTimesCardSaid : Prop := Claim7.holds Tryd.pinned (.plain (OpenSpec.ofChange ruleTimesSpec)) ruleTimesCard

/-- THE TIED CARD OF 'epactlaw17.RuleReads'. -/
def ruleReadsCard : Claim7 := { stood := { row := ruleReadsRow, standIns := [], harness := (true, "cd56eb1721cfdbd10233006c505c409e2d830ba54e30c7dbc9299dc239ffbf07"), looks := true }, kinds := [], alts := [], laidByText := true, laidKinds := [.data, .data, .data, .sentinel, .sentinel], laidTests := true, laidLooks := .later }
def RuleReadsCardSaid : Prop := Claim7.holds Tryd.pinned (.plain (OpenSpec.ofChange ruleReadsSpec)) ruleReadsCard

/-- THE TIED CARD OF 'epactlaw17.RuleDays'. -/
def ruleDaysCard : Claim7 := { stood := { row := ruleDaysRow, standIns := [], harness := (true, "cd56eb1721cfdbd10233006c505c409e2d830ba54e30c7dbc9299dc239ffbf07"), looks := true }, kinds := [], alts := [], laidByText := true, laidKinds := [.data, .data, .data, .sentinel, .sentinel], laidTests := true, laidLooks := .later }
def RuleDaysCardSaid : Prop := Claim7.holds Tryd.pinned (.plain (OpenSpec.ofChange ruleDaysSpec)) ruleDaysCard

/-- THE TIED CARD OF 'epactlaw17.RuleYears'. -/
def ruleYearsCard : Claim7 := { stood := { row := ruleYearsRow, standIns := [], harness := (true, "cd56eb1721cfdbd10233006c505c409e2d830ba54e30c7dbc9299dc239ffbf07"), looks := true }, kinds := [], alts := [], laidByText := true, laidKinds := [.data, .data, .data, .sentinel, .sentinel], laidTests := true, laidLooks := .later }
def RuleYearsCardSaid : Prop := Claim7.holds Tryd.pinned (.plain (OpenSpec.ofChange ruleYearsSpec)) ruleYearsCard

/-- THE SECOND FORM's CARD OF 'epactlaw08.FaultTells'. -/
def faultTellsUptoCard : Claim7 := { stood := { row := faultTellsUptoRow, standIns := [], harness := (true, "cd56eb1721cfdbd10233006c505c409e2d830ba54e30c7dbc9299dc239ffbf07"), looks := true }, kinds := [], alts := [], laidByText := true, laidKinds := [.data, .data, .data], laidTests := true, laidLooks := .later }
def FaultTellsUptoCardSaid : Prop := Claim7.holds Tryd.pinned (.plain (OpenSpec.upto faultTellsSpec)) faultTellsUptoCard

/-- THE SECOND FORM's CARD OF 'epactlaw08.FaultBack'. -/
def faultBackUptoCard : Claim7 := { stood := { row := faultBackUptoRow, standIns := [], harness := (true, "cd56eb1721cfdbd10233006c505c409e2d830ba54e30c7dbc9299dc239ffbf07"), looks := true }, kinds := [], alts := [], laidByText := true, laidKinds := [.data, .data, .data], laidTests := true, laidLooks := .later }
def FaultBackUptoCardSaid : Prop := Claim7.holds Tryd.pinned (.plain (OpenSpec.upto faultBackSpec)) faultBackUptoCard

/-- THE SECOND FORM's CARD OF 'epactlaw08.FaultFirst'. -/
def faultFirstUptoCard : Claim7 := { stood := { row := faultFirstUptoRow, standIns := [], harness := (true, "cd56eb1721cfdbd10233006c505c409e2d830ba54e30c7dbc9299dc239ffbf07"), looks := true }, kinds := [], alts := [], laidByText := true, laidKinds := [.data, .data, .data], laidTests := true, laidLooks := .later }
def FaultFirstUptoCardSaid : Prop := Claim7.holds Tryd.pinned (.plain (OpenSpec.upto faultFirstSpec)) faultFirstUptoCard

/-- THE SECOND FORM's CARD OF 'epactlaw08.FaultTexts'. -/
def faultTextsUptoCard : Claim7 := { stood := { row := faultTextsUptoRow, standIns := [], harness := (true, "cd56eb1721cfdbd10233006c505c409e2d830ba54e30c7dbc9299dc239ffbf07"), looks := true }, kinds := [], alts := [], laidByText := true, laidKinds := [.data, .data, .data], laidTests := true, laidLooks := .later }
def FaultTextsUptoCardSaid : Prop := Claim7.holds Tryd.pinned (.plain (OpenSpec.upto faultTextsSpec)) faultTextsUptoCard

/-- THE SECOND FORM's CARD OF 'epactlaw17.RuleTells'. -/
def ruleTellsUptoCard : Claim7 := { stood := { row := ruleTellsUptoRow, standIns := [], harness := (true, "cd56eb1721cfdbd10233006c505c409e2d830ba54e30c7dbc9299dc239ffbf07"), looks := true }, kinds := [], alts := [], laidByText := true, laidKinds := [.data, .data, .data, .sentinel, .sentinel], laidTests := true, laidLooks := .later }
def RuleTellsUptoCardSaid : Prop := Claim7.holds Tryd.pinned (.plain (OpenSpec.upto ruleTellsSpec)) ruleTellsUptoCard

/-- THE SECOND FORM's CARD OF 'epactlaw17.RuleBack'. -/
def ruleBackUptoCard : Claim7 := { stood := { row := ruleBackUptoRow, standIns := [], harness := (true, "cd56eb1721cfdbd10233006c505c409e2d830ba54e30c7dbc9299dc239ffbf07"), looks := true }, kinds := [], alts := [], laidByText := true, laidKinds := [.data, .data, .data, .sentinel, .sentinel], laidTests := true, laidLooks := .later }
def RuleBackUptoCardSaid : Prop := Claim7.holds Tryd.pinned (.plain (OpenSpec.upto ruleBackSpec)) ruleBackUptoCard

/-- THE SECOND FORM's CARD OF 'epactlaw17.RuleTimes'. -/
def ruleTimesUptoCard : Claim7 := { stood := { row := ruleTimesUptoRow, standIns := [], harness := (true, "cd56eb1721cfdbd10233006c505c409e2d830ba54e30c7dbc9299dc239ffbf07"), looks := true }, kinds := [], alts := [], laidByText := true, laidKinds := [.data, .data, .data, .sentinel, .sentinel], laidTests := true, laidLooks := .later }
def RuleTimesUptoCardSaid : Prop := Claim7.holds Tryd.pinned (.plain (OpenSpec.upto ruleTimesSpec)) ruleTimesUptoCard

/-- THE SECOND FORM's CARD OF 'epactlaw17.RuleReads'. -/
def ruleReadsUptoCard : Claim7 := { stood := { row := ruleReadsUptoRow, standIns := [], harness := (true, "cd56eb1721cfdbd10233006c505c409e2d830ba54e30c7dbc9299dc239ffbf07"), looks := true }, kinds := [], alts := [], laidByText := true, laidKinds := [.data, .data, .data, .sentinel, .sentinel], laidTests := true, laidLooks := .later }
def RuleReadsUptoCardSaid : Prop := Claim7.holds Tryd.pinned (.plain (OpenSpec.upto ruleReadsSpec)) ruleReadsUptoCard

/-- THE SECOND FORM's CARD OF 'epactlaw17.RuleDays'. -/
def ruleDaysUptoCard : Claim7 := { stood := { row := ruleDaysUptoRow, standIns := [], harness := (true, "cd56eb1721cfdbd10233006c505c409e2d830ba54e30c7dbc9299dc239ffbf07"), looks := true }, kinds := [], alts := [], laidByText := true, laidKinds := [.data, .data, .data, .sentinel, .sentinel], laidTests := true, laidLooks := .later }
def RuleDaysUptoCardSaid : Prop := Claim7.holds Tryd.pinned (.plain (OpenSpec.upto ruleDaysSpec)) ruleDaysUptoCard

/-- THE SECOND FORM's CARD OF 'epactlaw17.RuleYears'. -/
def ruleYearsUptoCard : Claim7 := { stood := { row := ruleYearsUptoRow, standIns := [], harness := (true, "cd56eb1721cfdbd10233006c505c409e2d830ba54e30c7dbc9299dc239ffbf07"), looks := true }, kinds := [], alts := [], laidByText := true, laidKinds := [.data, .data, .data, .sentinel, .sentinel], laidTests := true, laidLooks := .later }
def RuleYearsUptoCardSaid : Prop := Claim7.holds Tryd.pinned (.plain (OpenSpec.upto ruleYearsSpec)) ruleYearsUptoCard
end Rows
end Go.Proofs.YtghjemcbkackjaaDoor
