/- What the functions come to in plain data, with proofs, and what that answers. -/
import Derived.Test.YtenaflbcnkalbaaGreatDoorJRightRolls2
section
set_option linter.unusedVariables false
set_option linter.unusedSimpArgs false
namespace Go.Proofs.YtenaflbcnkalbaaGreatDoor.rightRolls
open Go Go.Proofs.YtenaflbcnkalbaaGreatDoor.Eng
theorem a1 : Rows.rightRollsRow.wf (OpenSpec.ofChange Rows.rightRollsSpec) = true := by kernel_rfl
theorem a4 : Tryz.f5.params.all (Tryz.pinned.checked.prog.readableRec ·) = true := by kernel_rfl
theorem a5 : namedTie Tryz.pinned.checked.prog Rows.rightRollsRow.named Rows.rightRollsSpec.vars = true := by kernel_rfl
theorem b1 : (Rows.rightRollsRow.inPlace == Tryz.pinned.checked.prog.inPlace 5) = true := by kernel_rfl
theorem b2 : (Rows.rightRollsRow.unfollowed == Tryz.pinned.checked.prog.unfollowed 5) = true := by kernel_rfl
theorem b3 : (Rows.rightRollsRow.recurses == Tryz.pinned.checked.prog.recurses 5) = true := by kernel_rfl
theorem b4 : (Rows.rightRollsRow.named == Tryz.pinned.checked.prog.varsNamed 5) = true := by kernel_rfl
theorem b5 : (Rows.rightRollsRow.maps == (Tryz.f5.params.toList ++ Rows.rightRollsSpec.plain.varTypes Tryz.pinned.checked.prog).any (Tryz.pinned.checked.prog.mapsRec ·)) = true := by kernel_rfl
theorem b6 : (Rows.rightRollsRow.ifaces == (Tryz.f5.params.toList ++ Rows.rightRollsSpec.plain.varTypes Tryz.pinned.checked.prog).any (Tryz.pinned.checked.prog.ifacesRec ·)) = true := by kernel_rfl
theorem b7 : (Rows.rightRollsRow.mapsOut == Tryz.pinned.checked.prog.mapsAmong Tryz.f5.resultTypes.toList) = true := by kernel_rfl
theorem b8 : (Rows.rightRollsRow.loops == (Tryz.f5.params.toList ++ Rows.rightRollsSpec.plain.varTypes Tryz.pinned.checked.prog).any (Tryz.pinned.checked.prog.loopsFrom ·)) = true := by kernel_rfl
theorem b9 : (Rows.rightRollsRow.wideKeys == (Tryz.f5.params.toList ++ Rows.rightRollsSpec.plain.varTypes Tryz.pinned.checked.prog ++ Tryz.f5.resultTypes.toList).any (Tryz.pinned.checked.prog.wideKeysFrom ·)) = true := by kernel_rfl
theorem c1 : Rows.rightRollsSpec.vars.all (Tryz.pinned.checked.prog.varReadable ·) = true := by kernel_rfl
theorem c2 : Tryz.f5.resultTypes.all (fun t => Tryz.pinned.checked.prog.readableRec t && decide (t < Tryz.pinned.checked.prog.types.size)) = true := by kernel_rfl
theorem c3 : (Rows.rightRollsRow.ifacesOut == Tryz.f5.resultTypes.toList.any (Tryz.pinned.checked.prog.ifacesRec ·)) = true := by kernel_rfl
theorem c4 : (Rows.rightRollsRow.loopsOut == Tryz.f5.resultTypes.toList.any (Tryz.pinned.checked.prog.loopsFrom ·)) = true := by kernel_rfl
theorem d3 : (Rows.rightRollsRow.pinned == Rows.rightRollsRow.pinnedBy) = true := by kernel_rfl
theorem d4 : (Rows.rightRollsRow.veiled == (Tryz.f5.params.toList ++ Rows.rightRollsSpec.plain.varTypes Tryz.pinned.checked.prog ++ Tryz.f5.resultTypes.toList).any (Tryz.pinned.checked.prog.veiledRec ·)) = true := by kernel_rfl
theorem d5 : Rows.rightRollsRow.veiledFits Tryz.pinned.checked.prog Tryz.f5.params.toList (Tryz.f5.params.toList ++ Rows.rightRollsSpec.plain.varTypes Tryz.pinned.checked.prog ++ Tryz.f5.resultTypes.toList) = true := by kernel_rfl
theorem n1 : Tryz.pinned.checked.prog.funcNamed Rows.rightRollsRow.func = some 5 := by kernel_rfl
theorem n3 : Tryz.pinned.checked.prog.funcNamed "epact/epactlaw21.RightRolls" = some 5 := by kernel_rfl
theorem n2 : Tryz.f5.isInstance Tryz.pinned.checked.prog Rows.rightRollsRow.origin Rows.rightRollsRow.targs := of_decide_eq_true (by kernel_rfl)
theorem wrap : Tryz.f5.isWrapper Tryz.pinned.checked.prog Rows.rightRollsRow.wrapper Rows.rightRollsRow.mainSum := by unfold Func.isWrapper; first | (rw [if_pos (by decide +kernel)]; kernel_rfl) | (rw [if_neg (by decide +kernel)]; exact ⟨rfl, rfl⟩)
theorem closed : joinedFacts Tryz.pinned.checked.prog 5 Tryz.f5 Rows.rightRollsSpec Rows.rightRollsRow = true := joined_mk a1 jp.a2 jp.a3 a4 a5 rfl jp.a7 rfl jp.a9 b1 b2 b3 b4 b5 b6 b7 b8 b9 c1 c2 c3 c4 jp.c5 rfl jp.c7 jp.c8 jp.c9 jp.d1 ⟨rfl, rfl⟩ d3 d4 d5
theorem g1 : false = Rows.rightRollsRow.goesBy Tryz.pinned.checked.prog := by kernel_rfl
theorem g2 : (([26, 44] : List Nat).all fun u => !Tryz.pinned.checked.prog.wantsStandIn u) = true := by kernel_rfl
theorem g3 : Rows.rightRollsRow.wfByText (OpenSpec.ofChange Rows.rightRollsSpec) = true := by kernel_rfl
end Go.Proofs.YtenaflbcnkalbaaGreatDoor.rightRolls
end
