/- An interpreter of the model's code over values without addresses, and its proof of soundness. -/
import Derived.Test.YtenaflbcnkalbaaGreatDoorF2
import Derived.Test.YtenaflbcnkalbaaGreatDoorRows
import Derived.WalkKit
import Derived.MakeChecks
import Derived.ProofKit
import Derived.SevenTiedAt
section
set_option linter.unusedVariables false
set_option linter.unusedSimpArgs false
namespace Go.Proofs.YtenaflbcnkalbaaGreatDoor.jp
open Go Go.Proofs.YtenaflbcnkalbaaGreatDoor.Eng
theorem a2 : laidOutB Tryz.pinned.checked.prog = true := by kernel_rfl
theorem a3 : mapsRowed Tryz.pinned.checked.prog = true := by kernel_rfl
theorem a7 : (Tryz.pinned.checked.prog.stops == []) = true := by kernel_rfl
theorem a9 : (Tryz.pinned.checked.prog.stopKnobs == []) = true := by kernel_rfl
theorem c5 : (Rows.rightShiftsRow.plainKeys == Tryz.pinned.checked.prog.plainKeys) = true := by kernel_rfl
theorem c7 : Tryz.pinned.checked.prog.stopsHeard = true := by kernel_rfl
theorem c8 : Tryz.pinned.checked.prog.mayEnter = true := by kernel_rfl
theorem c9 : (Rows.rightShiftsRow.lifted == Tryz.pinned.checked.prog.liftsFinal) = true := by kernel_rfl
theorem d1 : (Tryz.pinned.checked.prog.make == some Rows.rightShiftsRow.make) = true := by kernel_rfl
theorem m1 : Tryz.pinned.checked.prog.mainIs = some ((true, "35a470db3e8ebddad4eea300c88d51d5fc6bc322126da1bb2a8a96779a54ed05").1, (true, "35a470db3e8ebddad4eea300c88d51d5fc6bc322126da1bb2a8a96779a54ed05").2.toList) := by kernel_rfl
theorem m2 : true = Tryz.pinned.checked.prog.looks [] := by kernel_rfl
end Go.Proofs.YtenaflbcnkalbaaGreatDoor.jp
end
