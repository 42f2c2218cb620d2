/- An interpreter of the model's code over values without addresses, and its proof of soundness. -/
import Derived.Test.YtbnpclndiichcaaGreatDoorGTzifTells2
import Derived.Test.YtbnpclndiichcaaGreatDoorCards
import Derived.Test.YtbnpclndiichcaaGreatDoorRows
import Derived.WalkKit
import Derived.MakeChecks
import Derived.ProofKit
import Derived.SevenTiedAt
section
set_option linter.unusedVariables false
set_option linter.unusedSimpArgs false
namespace Go.Proofs.YtbnpclndiichcaaGreatDoor.jp
open Go Go.Proofs.YtbnpclndiichcaaGreatDoor.Eng
theorem a2:laidOutB Tryz.pinned.checked.prog=true:=by kernel_rfl
theorem a3:mapsRowed Tryz.pinned.checked.prog=true:=by kernel_rfl
theorem a7:(Tryz.pinned.checked.prog.stops == [])=true:=by kernel_rfl
theorem a9:(Tryz.pinned.checked.prog.stopKnobs == [])=true:=by kernel_rfl
theorem c5:(Rows.tzifShortRow.plainKeys == Tryz.pinned.checked.prog.plainKeys)=true:=by kernel_rfl
theorem c7:Tryz.pinned.checked.prog.stopsHeard=true:=by kernel_rfl
theorem c8:Tryz.pinned.checked.prog.mayEnter=true:=by kernel_rfl
theorem c9:(Rows.tzifShortRow.lifted == Tryz.pinned.checked.prog.liftsFinal)=true:=by kernel_rfl
theorem d1:(Tryz.pinned.checked.prog.make == some Rows.tzifShortRow.make)=true:=by kernel_rfl
theorem m1:Tryz.pinned.checked.prog.mainIs=some ((true,"2004b192542a3c5bf2a0a254c9ac2f5904bdc620927d834c04af767350e550c0").1,(true,"2004b192542a3c5bf2a0a254c9ac2f5904bdc620927d834c04af767350e550c0").2.toList):=by kernel_rfl
theorem m2:true=Tryz.pinned.checked.prog.looks []:=by kernel_rfl
end Go.Proofs.YtbnpclndiichcaaGreatDoor.jp
end
