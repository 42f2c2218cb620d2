/- What the functions come to in plain data, with proofs, and what that answers. -/
import Derived.Test.YtodmkipcgfodkaaGreatDoorJTzifRight3
section
set_option linter.unusedVariables false
set_option linter.unusedSimpArgs false
namespace Go.Proofs.YtodmkipcgfodkaaGreatDoor.tzifRight
open Go Go.Proofs.YtodmkipcgfodkaaGreatDoor.Eng
theorem a1 : Rows.tzifRightRow.wf (OpenSpec.ofChange Rows.tzifRightSpec) = true := by kernel_rfl
theorem a4 : Tryz.f5.params.all (Tryz.pinned.checked.prog.readableRec ·) = true := by kernel_rfl
theorem a5 : namedTie Tryz.pinned.checked.prog Rows.tzifRightRow.named Rows.tzifRightSpec.vars = true := by kernel_rfl
theorem b1 : (Rows.tzifRightRow.inPlace == Tryz.pinned.checked.prog.inPlace 5) = true := by kernel_rfl
theorem b2 : (Rows.tzifRightRow.unfollowed == Tryz.pinned.checked.prog.unfollowed 5) = true := by kernel_rfl
theorem b3 : (Rows.tzifRightRow.recurses == Tryz.pinned.checked.prog.recurses 5) = true := by kernel_rfl
theorem b4 : (Rows.tzifRightRow.named == Tryz.pinned.checked.prog.varsNamed 5) = true := by kernel_rfl
theorem b5 : (Rows.tzifRightRow.maps == (Tryz.f5.params.toList ++ Rows.tzifRightSpec.plain.varTypes Tryz.pinned.checked.prog).any (Tryz.pinned.checked.prog.mapsRec ·)) = true := by kernel_rfl
theorem b6 : (Rows.tzifRightRow.ifaces == (Tryz.f5.params.toList ++ Rows.tzifRightSpec.plain.varTypes Tryz.pinned.checked.prog).any (Tryz.pinned.checked.prog.ifacesRec ·)) = true := by kernel_rfl
theorem b7 : (Rows.tzifRightRow.mapsOut == Tryz.pinned.checked.prog.mapsAmong Tryz.f5.resultTypes.toList) = true := by kernel_rfl
theorem b8 : (Rows.tzifRightRow.loops == (Tryz.f5.params.toList ++ Rows.tzifRightSpec.plain.varTypes Tryz.pinned.checked.prog).any (Tryz.pinned.checked.prog.loopsFrom ·)) = true := by kernel_rfl
theorem b9 : (Rows.tzifRightRow.wideKeys == (Tryz.f5.params.toList ++ Rows.tzifRightSpec.plain.varTypes Tryz.pinned.checked.prog ++ Tryz.f5.resultTypes.toList).any (Tryz.pinned.checked.prog.wideKeysFrom ·)) = true := by kernel_rfl
theorem c1 : Rows.tzifRightSpec.vars.all (Tryz.pinned.checked.prog.varReadable ·) = true := by kernel_rfl
theorem c2 : Tryz.f5.resultTypes.all (fun t => Tryz.pinned.checked.prog.readableRec t && decide (t < Tryz.pinned.checked.prog.types.size)) = true := by kernel_rfl
theorem c3 : (Rows.tzifRightRow.ifacesOut == Tryz.f5.resultTypes.toList.any (Tryz.pinned.checked.prog.ifacesRec ·)) = true := by kernel_rfl
theorem c4 : (Rows.tzifRightRow.loopsOut == Tryz.f5.resultTypes.toList.any (Tryz.pinned.checked.prog.loopsFrom ·)) = true := by kernel_rfl
theorem d3 : (Rows.tzifRightRow.pinned == Rows.tzifRightRow.pinnedBy) = true := by kernel_rfl
theorem d4 : (Rows.tzifRightRow.veiled == (Tryz.f5.params.toList ++ Rows.tzifRightSpec.plain.varTypes Tryz.pinned.checked.prog ++ Tryz.f5.resultTypes.toList).any (Tryz.pinned.checked.prog.veiledRec ·)) = true := by kernel_rfl
theorem d5 : Rows.tzifRightRow.veiledFits Tryz.pinned.checked.prog Tryz.f5.params.toList (Tryz.f5.params.toList ++ Rows.tzifRightSpec.plain.varTypes Tryz.pinned.checked.prog ++ Tryz.f5.resultTypes.toList) = true := by kernel_rfl
theorem n1 : Tryz.pinned.checked.prog.funcNamed Rows.tzifRightRow.func = some 5 := by kernel_rfl
theorem n3 : Tryz.pinned.checked.prog.funcNamed "epact/epactlaw20.TzifRight" = some 5 := by kernel_rfl
theorem n2 : Tryz.f5.isInstance Tryz.pinned.checked.prog Rows.tzifRightRow.origin Rows.tzifRightRow.targs := of_decide_eq_true (by kernel_rfl)
theorem wrap : Tryz.f5.isWrapper Tryz.pinned.checked.prog Rows.tzifRightRow.wrapper Rows.tzifRightRow.mainSum := by unfold Func.isWrapper; first | (rw [if_pos (by decide +kernel)]; kernel_rfl) | (rw [if_neg (by decide +kernel)]; exact ⟨rfl, rfl⟩)
theorem closed : joinedFacts Tryz.pinned.checked.prog 5 Tryz.f5 Rows.tzifRightSpec Rows.tzifRightRow = true := joined_mk a1 jp.a2 jp.a3 a4 a5 rfl jp.a7 rfl jp.a9 b1 b2 b3 b4 b5 b6 b7 b8 b9 c1 c2 c3 c4 jp.c5 rfl jp.c7 jp.c8 jp.c9 jp.d1 ⟨rfl, rfl⟩ d3 d4 d5
theorem g1 : false = Rows.tzifRightRow.goesBy Tryz.pinned.checked.prog := by kernel_rfl
theorem g2 : (([27] : List Nat).all fun u => !Tryz.pinned.checked.prog.wantsStandIn u) = true := by kernel_rfl
theorem g3 : Rows.tzifRightRow.wfByText (OpenSpec.ofChange Rows.tzifRightSpec) = true := by kernel_rfl
end Go.Proofs.YtodmkipcgfodkaaGreatDoor.tzifRight
end
