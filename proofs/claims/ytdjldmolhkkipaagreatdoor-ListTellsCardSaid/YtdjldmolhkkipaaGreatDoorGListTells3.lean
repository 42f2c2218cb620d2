/- An interpreter of the model's code over values without addresses, and its proof of soundness. -/
import Derived.Test.YtdjldmolhkkipaaGreatDoorGListTells2
import Derived.Test.YtdjldmolhkkipaaGreatDoorCards
import Derived.Test.YtdjldmolhkkipaaGreatDoorRows
import Derived.WalkKit
import Derived.MakeChecks
import Derived.ProofKit
import Derived.SevenTiedAt
section
set_option linter.unusedVariables false
set_option linter.unusedSimpArgs false
namespace Go.Proofs.YtdjldmolhkkipaaGreatDoor.jp
open Go Go.Proofs.YtdjldmolhkkipaaGreatDoor.Eng
theorem a2:laidOutB Tryz.pinned.checked.prog=true:=by kernel_rfl
theorem a3:mapsRowed Tryz.pinned.checked.prog=true:=by kernel_rfl
theorem a7:(Tryz.pinned.checked.prog.stops == [])=true:=by kernel_rfl
theorem a9:(Tryz.pinned.checked.prog.stopKnobs == [])=true:=by kernel_rfl
theorem c5:(Rows.zicListsRow.plainKeys == Tryz.pinned.checked.prog.plainKeys)=true:=by kernel_rfl
theorem c7:Tryz.pinned.checked.prog.stopsHeard=true:=by kernel_rfl
theorem c8:Tryz.pinned.checked.prog.mayEnter=true:=by kernel_rfl
theorem c9:(Rows.zicListsRow.lifted == Tryz.pinned.checked.prog.liftsFinal)=true:=by kernel_rfl
theorem d1:(Tryz.pinned.checked.prog.make == some Rows.zicListsRow.make)=true:=by kernel_rfl
theorem m1:Tryz.pinned.checked.prog.mainIs=some ((true,"43e4d049025f0c88a6702a82cc41fce696d3051669739b64ed9718935ab263e7").1,(true,"43e4d049025f0c88a6702a82cc41fce696d3051669739b64ed9718935ab263e7").2.toList):=by kernel_rfl
theorem m2:false=Tryz.pinned.checked.prog.looks []:=by kernel_rfl
end Go.Proofs.YtdjldmolhkkipaaGreatDoor.jp
end
