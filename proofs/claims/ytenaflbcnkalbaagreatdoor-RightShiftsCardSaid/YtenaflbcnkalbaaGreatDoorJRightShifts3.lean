/- What the functions come to in plain data, with proofs, and what that answers. -/
import Derived.Test.YtenaflbcnkalbaaGreatDoorJRightShifts2
section
set_option linter.unusedVariables false
set_option linter.unusedSimpArgs false
namespace Go.Proofs.YtenaflbcnkalbaaGreatDoor.rightShifts
open Go Go.Proofs.YtenaflbcnkalbaaGreatDoor.Eng
theorem a1 : Rows.rightShiftsRow.wf (OpenSpec.ofChange Rows.rightShiftsSpec) = true := by kernel_rfl
theorem a4 : Tryz.f6.params.all (Tryz.pinned.checked.prog.readableRec ·) = true := by kernel_rfl
theorem a5 : namedTie Tryz.pinned.checked.prog Rows.rightShiftsRow.named Rows.rightShiftsSpec.vars = true := by kernel_rfl
theorem b1 : (Rows.rightShiftsRow.inPlace == Tryz.pinned.checked.prog.inPlace 6) = true := by kernel_rfl
theorem b2 : (Rows.rightShiftsRow.unfollowed == Tryz.pinned.checked.prog.unfollowed 6) = true := by kernel_rfl
theorem b3 : (Rows.rightShiftsRow.recurses == Tryz.pinned.checked.prog.recurses 6) = true := by kernel_rfl
theorem b4 : (Rows.rightShiftsRow.named == Tryz.pinned.checked.prog.varsNamed 6) = true := by kernel_rfl
theorem b5 : (Rows.rightShiftsRow.maps == (Tryz.f6.params.toList ++ Rows.rightShiftsSpec.plain.varTypes Tryz.pinned.checked.prog).any (Tryz.pinned.checked.prog.mapsRec ·)) = true := by kernel_rfl
theorem b6 : (Rows.rightShiftsRow.ifaces == (Tryz.f6.params.toList ++ Rows.rightShiftsSpec.plain.varTypes Tryz.pinned.checked.prog).any (Tryz.pinned.checked.prog.ifacesRec ·)) = true := by kernel_rfl
theorem b7 : (Rows.rightShiftsRow.mapsOut == Tryz.pinned.checked.prog.mapsAmong Tryz.f6.resultTypes.toList) = true := by kernel_rfl
theorem b8 : (Rows.rightShiftsRow.loops == (Tryz.f6.params.toList ++ Rows.rightShiftsSpec.plain.varTypes Tryz.pinned.checked.prog).any (Tryz.pinned.checked.prog.loopsFrom ·)) = true := by kernel_rfl
theorem b9 : (Rows.rightShiftsRow.wideKeys == (Tryz.f6.params.toList ++ Rows.rightShiftsSpec.plain.varTypes Tryz.pinned.checked.prog ++ Tryz.f6.resultTypes.toList).any (Tryz.pinned.checked.prog.wideKeysFrom ·)) = true := by kernel_rfl
theorem c1 : Rows.rightShiftsSpec.vars.all (Tryz.pinned.checked.prog.varReadable ·) = true := by kernel_rfl
theorem c2 : Tryz.f6.resultTypes.all (fun t => Tryz.pinned.checked.prog.readableRec t && decide (t < Tryz.pinned.checked.prog.types.size)) = true := by kernel_rfl
theorem c3 : (Rows.rightShiftsRow.ifacesOut == Tryz.f6.resultTypes.toList.any (Tryz.pinned.checked.prog.ifacesRec ·)) = true := by kernel_rfl
theorem c4 : (Rows.rightShiftsRow.loopsOut == Tryz.f6.resultTypes.toList.any (Tryz.pinned.checked.prog.loopsFrom ·)) = true := by kernel_rfl
theorem d3 : (Rows.rightShiftsRow.pinned == Rows.rightShiftsRow.pinnedBy) = true := by kernel_rfl
theorem d4 : (Rows.rightShiftsRow.veiled == (Tryz.f6.params.toList ++ Rows.rightShiftsSpec.plain.varTypes Tryz.pinned.checked.prog ++ Tryz.f6.resultTypes.toList).any (Tryz.pinned.checked.prog.veiledRec ·)) = true := by kernel_rfl
theorem d5 : Rows.rightShiftsRow.veiledFits Tryz.pinned.checked.prog Tryz.f6.params.toList (Tryz.f6.params.toList ++ Rows.rightShiftsSpec.plain.varTypes Tryz.pinned.checked.prog ++ Tryz.f6.resultTypes.toList) = true := by kernel_rfl
theorem n1 : Tryz.pinned.checked.prog.funcNamed Rows.rightShiftsRow.func = some 6 := by kernel_rfl
theorem n3 : Tryz.pinned.checked.prog.funcNamed "epact/epactlaw21.RightShifts" = some 6 := by kernel_rfl
theorem n2 : Tryz.f6.isInstance Tryz.pinned.checked.prog Rows.rightShiftsRow.origin Rows.rightShiftsRow.targs := of_decide_eq_true (by kernel_rfl)
theorem wrap : Tryz.f6.isWrapper Tryz.pinned.checked.prog Rows.rightShiftsRow.wrapper Rows.rightShiftsRow.mainSum := by unfold Func.isWrapper; first | (rw [if_pos (by decide +kernel)]; kernel_rfl) | (rw [if_neg (by decide +kernel)]; exact ⟨rfl, rfl⟩)
theorem closed : joinedFacts Tryz.pinned.checked.prog 6 Tryz.f6 Rows.rightShiftsSpec Rows.rightShiftsRow = true := joined_mk a1 jp.a2 jp.a3 a4 a5 rfl jp.a7 rfl jp.a9 b1 b2 b3 b4 b5 b6 b7 b8 b9 c1 c2 c3 c4 jp.c5 rfl jp.c7 jp.c8 jp.c9 jp.d1 ⟨rfl, rfl⟩ d3 d4 d5
theorem g1 : false = Rows.rightShiftsRow.goesBy Tryz.pinned.checked.prog := by kernel_rfl
theorem g2 : (([26, 29, 3] : List Nat).all fun u => !Tryz.pinned.checked.prog.wantsStandIn u) = true := by kernel_rfl
theorem g3 : Rows.rightShiftsRow.wfByText (OpenSpec.ofChange Rows.rightShiftsSpec) = true := by kernel_rfl
end Go.Proofs.YtenaflbcnkalbaaGreatDoor.rightShifts
end
