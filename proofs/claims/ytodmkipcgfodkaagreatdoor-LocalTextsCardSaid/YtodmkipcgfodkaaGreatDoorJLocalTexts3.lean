/- What the functions come to in plain data, with proofs, and what that answers. -/
import Derived.Test.YtodmkipcgfodkaaGreatDoorJLocalTexts2
section
set_option linter.unusedVariables false
set_option linter.unusedSimpArgs false
namespace Go.Proofs.YtodmkipcgfodkaaGreatDoor.localTexts
open Go Go.Proofs.YtodmkipcgfodkaaGreatDoor.Eng
theorem a1 : Rows.localTextsRow.wf (OpenSpec.ofChange Rows.localTextsSpec) = true := by kernel_rfl
theorem a4 : Tryz.f12.params.all (Tryz.pinned.checked.prog.readableRec ·) = true := by kernel_rfl
theorem a5 : namedTie Tryz.pinned.checked.prog Rows.localTextsRow.named Rows.localTextsSpec.vars = true := by kernel_rfl
theorem b1 : (Rows.localTextsRow.inPlace == Tryz.pinned.checked.prog.inPlace 12) = true := by kernel_rfl
theorem b2 : (Rows.localTextsRow.unfollowed == Tryz.pinned.checked.prog.unfollowed 12) = true := by kernel_rfl
theorem b3 : (Rows.localTextsRow.recurses == Tryz.pinned.checked.prog.recurses 12) = true := by kernel_rfl
theorem b4 : (Rows.localTextsRow.named == Tryz.pinned.checked.prog.varsNamed 12) = true := by kernel_rfl
theorem b5 : (Rows.localTextsRow.maps == (Tryz.f12.params.toList ++ Rows.localTextsSpec.plain.varTypes Tryz.pinned.checked.prog).any (Tryz.pinned.checked.prog.mapsRec ·)) = true := by kernel_rfl
theorem b6 : (Rows.localTextsRow.ifaces == (Tryz.f12.params.toList ++ Rows.localTextsSpec.plain.varTypes Tryz.pinned.checked.prog).any (Tryz.pinned.checked.prog.ifacesRec ·)) = true := by kernel_rfl
theorem b7 : (Rows.localTextsRow.mapsOut == Tryz.pinned.checked.prog.mapsAmong Tryz.f12.resultTypes.toList) = true := by kernel_rfl
theorem b8 : (Rows.localTextsRow.loops == (Tryz.f12.params.toList ++ Rows.localTextsSpec.plain.varTypes Tryz.pinned.checked.prog).any (Tryz.pinned.checked.prog.loopsFrom ·)) = true := by kernel_rfl
theorem b9 : (Rows.localTextsRow.wideKeys == (Tryz.f12.params.toList ++ Rows.localTextsSpec.plain.varTypes Tryz.pinned.checked.prog ++ Tryz.f12.resultTypes.toList).any (Tryz.pinned.checked.prog.wideKeysFrom ·)) = true := by kernel_rfl
theorem c1 : Rows.localTextsSpec.vars.all (Tryz.pinned.checked.prog.varReadable ·) = true := by kernel_rfl
theorem c2 : Tryz.f12.resultTypes.all (fun t => Tryz.pinned.checked.prog.readableRec t && decide (t < Tryz.pinned.checked.prog.types.size)) = true := by kernel_rfl
theorem c3 : (Rows.localTextsRow.ifacesOut == Tryz.f12.resultTypes.toList.any (Tryz.pinned.checked.prog.ifacesRec ·)) = true := by kernel_rfl
theorem c4 : (Rows.localTextsRow.loopsOut == Tryz.f12.resultTypes.toList.any (Tryz.pinned.checked.prog.loopsFrom ·)) = true := by kernel_rfl
theorem d3 : (Rows.localTextsRow.pinned == Rows.localTextsRow.pinnedBy) = true := by kernel_rfl
theorem d4 : (Rows.localTextsRow.veiled == (Tryz.f12.params.toList ++ Rows.localTextsSpec.plain.varTypes Tryz.pinned.checked.prog ++ Tryz.f12.resultTypes.toList).any (Tryz.pinned.checked.prog.veiledRec ·)) = true := by kernel_rfl
theorem d5 : Rows.localTextsRow.veiledFits Tryz.pinned.checked.prog Tryz.f12.params.toList (Tryz.f12.params.toList ++ Rows.localTextsSpec.plain.varTypes Tryz.pinned.checked.prog ++ Tryz.f12.resultTypes.toList) = true := by kernel_rfl
theorem n1 : Tryz.pinned.checked.prog.funcNamed Rows.localTextsRow.func = some 12 := by kernel_rfl
theorem n3 : Tryz.pinned.checked.prog.funcNamed "epact/epactlaw24.LocalTexts" = some 12 := by kernel_rfl
theorem n2 : Tryz.f12.isInstance Tryz.pinned.checked.prog Rows.localTextsRow.origin Rows.localTextsRow.targs := of_decide_eq_true (by kernel_rfl)
theorem wrap : Tryz.f12.isWrapper Tryz.pinned.checked.prog Rows.localTextsRow.wrapper Rows.localTextsRow.mainSum := by unfold Func.isWrapper; first | (rw [if_pos (by decide +kernel)]; kernel_rfl) | (rw [if_neg (by decide +kernel)]; exact ⟨rfl, rfl⟩)
theorem closed : joinedFacts Tryz.pinned.checked.prog 12 Tryz.f12 Rows.localTextsSpec Rows.localTextsRow = true := joined_mk a1 jp.a2 jp.a3 a4 a5 rfl jp.a7 rfl jp.a9 b1 b2 b3 b4 b5 b6 b7 b8 b9 c1 c2 c3 c4 jp.c5 rfl jp.c7 jp.c8 jp.c9 jp.d1 ⟨rfl, rfl⟩ d3 d4 d5
theorem g1 : false = Rows.localTextsRow.goesBy Tryz.pinned.checked.prog := by kernel_rfl
theorem g2 : (([48, 9] : List Nat).all fun u => !Tryz.pinned.checked.prog.wantsStandIn u) = true := by kernel_rfl
theorem g3 : Rows.localTextsRow.wfByText (OpenSpec.ofChange Rows.localTextsSpec) = true := by kernel_rfl
end Go.Proofs.YtodmkipcgfodkaaGreatDoor.localTexts
end
