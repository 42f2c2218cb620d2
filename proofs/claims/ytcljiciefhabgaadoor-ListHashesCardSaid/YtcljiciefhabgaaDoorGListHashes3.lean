/- An interpreter of the model's code over values without addresses, and its proof of soundness. -/
import Derived.Test.YtcljiciefhabgaaDoorGListHashes2
import Derived.Test.YtcljiciefhabgaaDoorCards
import Derived.Test.YtcljiciefhabgaaDoorRows
import Derived.WalkKit
import Derived.MakeChecks
import Derived.ProofKit
import Derived.SevenTiedAt
section
set_option linter.unusedVariables false
set_option linter.unusedSimpArgs false
namespace Go.Proofs.YtcljiciefhabgaaDoor.jp
open Go Go.Proofs.YtcljiciefhabgaaDoor.Eng
theorem a2:laidOutB Tryd.pinned.checked.prog=true:=by kernel_rfl
theorem a3:mapsRowed Tryd.pinned.checked.prog=true:=by kernel_rfl
theorem a7:(Tryd.pinned.checked.prog.stops == [])=true:=by kernel_rfl
theorem a9:(Tryd.pinned.checked.prog.stopKnobs == [])=true:=by kernel_rfl
theorem c5:(Rows.listBackRow.plainKeys == Tryd.pinned.checked.prog.plainKeys)=true:=by kernel_rfl
theorem c7:Tryd.pinned.checked.prog.stopsHeard=true:=by kernel_rfl
theorem c8:Tryd.pinned.checked.prog.mayEnter=true:=by kernel_rfl
theorem c9:(Rows.listBackRow.lifted == Tryd.pinned.checked.prog.liftsFinal)=true:=by kernel_rfl
theorem d1:(Tryd.pinned.checked.prog.make == some Rows.listBackRow.make)=true:=by kernel_rfl
theorem m1:Tryd.pinned.checked.prog.mainIs=some ((true,"45bd0d4ae8968e9542c8584594e15b909071ee20f10842d032f5eaad04f76b83").1,(true,"45bd0d4ae8968e9542c8584594e15b909071ee20f10842d032f5eaad04f76b83").2.toList):=by kernel_rfl
theorem m2:false=Tryd.pinned.checked.prog.looks []:=by kernel_rfl
end Go.Proofs.YtcljiciefhabgaaDoor.jp
end
