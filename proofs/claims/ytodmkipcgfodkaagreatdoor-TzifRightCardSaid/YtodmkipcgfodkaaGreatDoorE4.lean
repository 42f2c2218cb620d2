/- An interpreter of the model's code over values without addresses, and its proof of soundness. -/
import Derived.Test.YtodmkipcgfodkaaGreatDoorE3
import Derived.Test.YtodmkipcgfodkaaGreatDoorCards
import Derived.Test.YtodmkipcgfodkaaGreatDoorRows
import Derived.WalkKit
import Derived.MakeChecks
import Derived.ProofKit
import Derived.SevenTiedAt
section
set_option linter.unusedVariables false
set_option linter.unusedSimpArgs false
namespace Go.Proofs.YtodmkipcgfodkaaGreatDoor.jp
open Go Go.Proofs.YtodmkipcgfodkaaGreatDoor.Eng
theorem a2 : laidOutB Tryz.pinned.checked.prog = true := by kernel_rfl
theorem a3 : mapsRowed Tryz.pinned.checked.prog = true := by kernel_rfl
theorem a7 : (Tryz.pinned.checked.prog.stops == []) = true := by kernel_rfl
theorem a9 : (Tryz.pinned.checked.prog.stopKnobs == []) = true := by kernel_rfl
theorem c5 : (Rows.localTextsRow.plainKeys == Tryz.pinned.checked.prog.plainKeys) = true := by kernel_rfl
theorem c7 : Tryz.pinned.checked.prog.stopsHeard = true := by kernel_rfl
theorem c8 : Tryz.pinned.checked.prog.mayEnter = true := by kernel_rfl
theorem c9 : (Rows.localTextsRow.lifted == Tryz.pinned.checked.prog.liftsFinal) = true := by kernel_rfl
theorem d1 : (Tryz.pinned.checked.prog.make == some Rows.localTextsRow.make) = true := by kernel_rfl
theorem m1 : Tryz.pinned.checked.prog.mainIs = some ((true, "cd4fb2204c0f5b4fbd04807ca9a49aa89bda6b1ffaab6dceaf9055a8f0707e37").1, (true, "cd4fb2204c0f5b4fbd04807ca9a49aa89bda6b1ffaab6dceaf9055a8f0707e37").2.toList) := by kernel_rfl
theorem m2 : true = Tryz.pinned.checked.prog.looks [] := by kernel_rfl
end Go.Proofs.YtodmkipcgfodkaaGreatDoor.jp
end
