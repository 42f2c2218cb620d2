/- What the functions come to in plain data, with proofs, and what that answers. -/
import Derived.Test.YtenaflbcnkalbaaGreatDoorJRightTells3
section
set_option linter.unusedVariables false
set_option linter.unusedSimpArgs false
namespace Go.Proofs.YtenaflbcnkalbaaGreatDoor.rightTells
open Go Go.Proofs.YtenaflbcnkalbaaGreatDoor.Eng
theorem a1 : Rows.rightTellsRow.wf (OpenSpec.ofChange Rows.rightTellsSpec) = true := by kernel_rfl
theorem a4 : Tryz.f3.params.all (Tryz.pinned.checked.prog.readableRec ·) = true := by kernel_rfl
theorem a5 : namedTie Tryz.pinned.checked.prog Rows.rightTellsRow.named Rows.rightTellsSpec.vars = true := by kernel_rfl
theorem b1 : (Rows.rightTellsRow.inPlace == Tryz.pinned.checked.prog.inPlace 3) = true := by kernel_rfl
theorem b2 : (Rows.rightTellsRow.unfollowed == Tryz.pinned.checked.prog.unfollowed 3) = true := by kernel_rfl
theorem b3 : (Rows.rightTellsRow.recurses == Tryz.pinned.checked.prog.recurses 3) = true := by kernel_rfl
theorem b4 : (Rows.rightTellsRow.named == Tryz.pinned.checked.prog.varsNamed 3) = true := by kernel_rfl
theorem b5 : (Rows.rightTellsRow.maps == (Tryz.f3.params.toList ++ Rows.rightTellsSpec.plain.varTypes Tryz.pinned.checked.prog).any (Tryz.pinned.checked.prog.mapsRec ·)) = true := by kernel_rfl
theorem b6 : (Rows.rightTellsRow.ifaces == (Tryz.f3.params.toList ++ Rows.rightTellsSpec.plain.varTypes Tryz.pinned.checked.prog).any (Tryz.pinned.checked.prog.ifacesRec ·)) = true := by kernel_rfl
theorem b7 : (Rows.rightTellsRow.mapsOut == Tryz.pinned.checked.prog.mapsAmong Tryz.f3.resultTypes.toList) = true := by kernel_rfl
theorem b8 : (Rows.rightTellsRow.loops == (Tryz.f3.params.toList ++ Rows.rightTellsSpec.plain.varTypes Tryz.pinned.checked.prog).any (Tryz.pinned.checked.prog.loopsFrom ·)) = true := by kernel_rfl
theorem b9 : (Rows.rightTellsRow.wideKeys == (Tryz.f3.params.toList ++ Rows.rightTellsSpec.plain.varTypes Tryz.pinned.checked.prog ++ Tryz.f3.resultTypes.toList).any (Tryz.pinned.checked.prog.wideKeysFrom ·)) = true := by kernel_rfl
theorem c1 : Rows.rightTellsSpec.vars.all (Tryz.pinned.checked.prog.varReadable ·) = true := by kernel_rfl
theorem c2 : Tryz.f3.resultTypes.all (fun t => Tryz.pinned.checked.prog.readableRec t && decide (t < Tryz.pinned.checked.prog.types.size)) = true := by kernel_rfl
theorem c3 : (Rows.rightTellsRow.ifacesOut == Tryz.f3.resultTypes.toList.any (Tryz.pinned.checked.prog.ifacesRec ·)) = true := by kernel_rfl
theorem c4 : (Rows.rightTellsRow.loopsOut == Tryz.f3.resultTypes.toList.any (Tryz.pinned.checked.prog.loopsFrom ·)) = true := by kernel_rfl
theorem d3 : (Rows.rightTellsRow.pinned == Rows.rightTellsRow.pinnedBy) = true := by kernel_rfl
theorem d4 : (Rows.rightTellsRow.veiled == (Tryz.f3.params.toList ++ Rows.rightTellsSpec.plain.varTypes Tryz.pinned.checked.prog ++ Tryz.f3.resultTypes.toList).any (Tryz.pinned.checked.prog.veiledRec ·)) = true := by kernel_rfl
theorem d5 : Rows.rightTellsRow.veiledFits Tryz.pinned.checked.prog Tryz.f3.params.toList (Tryz.f3.params.toList ++ Rows.rightTellsSpec.plain.varTypes Tryz.pinned.checked.prog ++ Tryz.f3.resultTypes.toList) = true := by kernel_rfl
theorem n1 : Tryz.pinned.checked.prog.funcNamed Rows.rightTellsRow.func = some 3 := by kernel_rfl
theorem n3 : Tryz.pinned.checked.prog.funcNamed "epact/epactlaw21.RightTells" = some 3 := by kernel_rfl
theorem n2 : Tryz.f3.isInstance Tryz.pinned.checked.prog Rows.rightTellsRow.origin Rows.rightTellsRow.targs := of_decide_eq_true (by kernel_rfl)
theorem wrap : Tryz.f3.isWrapper Tryz.pinned.checked.prog Rows.rightTellsRow.wrapper Rows.rightTellsRow.mainSum := by unfold Func.isWrapper; first | (rw [if_pos (by decide +kernel)]; kernel_rfl) | (rw [if_neg (by decide +kernel)]; exact ⟨rfl, rfl⟩)
theorem closed : joinedFacts Tryz.pinned.checked.prog 3 Tryz.f3 Rows.rightTellsSpec Rows.rightTellsRow = true := joined_mk a1 jp.a2 jp.a3 a4 a5 rfl jp.a7 rfl jp.a9 b1 b2 b3 b4 b5 b6 b7 b8 b9 c1 c2 c3 c4 jp.c5 rfl jp.c7 jp.c8 jp.c9 jp.d1 ⟨rfl, rfl⟩ d3 d4 d5
theorem g1 : false = Rows.rightTellsRow.goesBy Tryz.pinned.checked.prog := by kernel_rfl
theorem g2 : (([26, 29, 3] : List Nat).all fun u => !Tryz.pinned.checked.prog.wantsStandIn u) = true := by kernel_rfl
theorem g3 : Rows.rightTellsRow.wfByText (OpenSpec.ofChange Rows.rightTellsSpec) = true := by kernel_rfl
end Go.Proofs.YtenaflbcnkalbaaGreatDoor.rightTells
end
