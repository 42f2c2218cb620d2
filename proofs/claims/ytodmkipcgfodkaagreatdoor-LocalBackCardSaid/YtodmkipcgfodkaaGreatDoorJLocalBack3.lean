/- What the functions come to in plain data, with proofs, and what that answers. -/
import Derived.Test.YtodmkipcgfodkaaGreatDoorJLocalBack2
section
set_option linter.unusedVariables false
set_option linter.unusedSimpArgs false
namespace Go.Proofs.YtodmkipcgfodkaaGreatDoor.localBack
open Go Go.Proofs.YtodmkipcgfodkaaGreatDoor.Eng
theorem a1 : Rows.localBackRow.wf (OpenSpec.ofChange Rows.localBackSpec) = true := by kernel_rfl
theorem a4 : Tryz.f11.params.all (Tryz.pinned.checked.prog.readableRec ·) = true := by kernel_rfl
theorem a5 : namedTie Tryz.pinned.checked.prog Rows.localBackRow.named Rows.localBackSpec.vars = true := by kernel_rfl
theorem b1 : (Rows.localBackRow.inPlace == Tryz.pinned.checked.prog.inPlace 11) = true := by kernel_rfl
theorem b2 : (Rows.localBackRow.unfollowed == Tryz.pinned.checked.prog.unfollowed 11) = true := by kernel_rfl
theorem b3 : (Rows.localBackRow.recurses == Tryz.pinned.checked.prog.recurses 11) = true := by kernel_rfl
theorem b4 : (Rows.localBackRow.named == Tryz.pinned.checked.prog.varsNamed 11) = true := by kernel_rfl
theorem b5 : (Rows.localBackRow.maps == (Tryz.f11.params.toList ++ Rows.localBackSpec.plain.varTypes Tryz.pinned.checked.prog).any (Tryz.pinned.checked.prog.mapsRec ·)) = true := by kernel_rfl
theorem b6 : (Rows.localBackRow.ifaces == (Tryz.f11.params.toList ++ Rows.localBackSpec.plain.varTypes Tryz.pinned.checked.prog).any (Tryz.pinned.checked.prog.ifacesRec ·)) = true := by kernel_rfl
theorem b7 : (Rows.localBackRow.mapsOut == Tryz.pinned.checked.prog.mapsAmong Tryz.f11.resultTypes.toList) = true := by kernel_rfl
theorem b8 : (Rows.localBackRow.loops == (Tryz.f11.params.toList ++ Rows.localBackSpec.plain.varTypes Tryz.pinned.checked.prog).any (Tryz.pinned.checked.prog.loopsFrom ·)) = true := by kernel_rfl
theorem b9 : (Rows.localBackRow.wideKeys == (Tryz.f11.params.toList ++ Rows.localBackSpec.plain.varTypes Tryz.pinned.checked.prog ++ Tryz.f11.resultTypes.toList).any (Tryz.pinned.checked.prog.wideKeysFrom ·)) = true := by kernel_rfl
theorem c1 : Rows.localBackSpec.vars.all (Tryz.pinned.checked.prog.varReadable ·) = true := by kernel_rfl
theorem c2 : Tryz.f11.resultTypes.all (fun t => Tryz.pinned.checked.prog.readableRec t && decide (t < Tryz.pinned.checked.prog.types.size)) = true := by kernel_rfl
theorem c3 : (Rows.localBackRow.ifacesOut == Tryz.f11.resultTypes.toList.any (Tryz.pinned.checked.prog.ifacesRec ·)) = true := by kernel_rfl
theorem c4 : (Rows.localBackRow.loopsOut == Tryz.f11.resultTypes.toList.any (Tryz.pinned.checked.prog.loopsFrom ·)) = true := by kernel_rfl
theorem d3 : (Rows.localBackRow.pinned == Rows.localBackRow.pinnedBy) = true := by kernel_rfl
theorem d4 : (Rows.localBackRow.veiled == (Tryz.f11.params.toList ++ Rows.localBackSpec.plain.varTypes Tryz.pinned.checked.prog ++ Tryz.f11.resultTypes.toList).any (Tryz.pinned.checked.prog.veiledRec ·)) = true := by kernel_rfl
theorem d5 : Rows.localBackRow.veiledFits Tryz.pinned.checked.prog Tryz.f11.params.toList (Tryz.f11.params.toList ++ Rows.localBackSpec.plain.varTypes Tryz.pinned.checked.prog ++ Tryz.f11.resultTypes.toList) = true := by kernel_rfl
theorem n1 : Tryz.pinned.checked.prog.funcNamed Rows.localBackRow.func = some 11 := by kernel_rfl
theorem n3 : Tryz.pinned.checked.prog.funcNamed "epact/epactlaw24.LocalBack" = some 11 := by kernel_rfl
theorem n2 : Tryz.f11.isInstance Tryz.pinned.checked.prog Rows.localBackRow.origin Rows.localBackRow.targs := of_decide_eq_true (by kernel_rfl)
theorem wrap : Tryz.f11.isWrapper Tryz.pinned.checked.prog Rows.localBackRow.wrapper Rows.localBackRow.mainSum := by unfold Func.isWrapper; first | (rw [if_pos (by decide +kernel)]; kernel_rfl) | (rw [if_neg (by decide +kernel)]; exact ⟨rfl, rfl⟩)
theorem closed : joinedFacts Tryz.pinned.checked.prog 11 Tryz.f11 Rows.localBackSpec Rows.localBackRow = true := joined_mk a1 jp.a2 jp.a3 a4 a5 rfl jp.a7 rfl jp.a9 b1 b2 b3 b4 b5 b6 b7 b8 b9 c1 c2 c3 c4 jp.c5 rfl jp.c7 jp.c8 jp.c9 jp.d1 ⟨rfl, rfl⟩ d3 d4 d5
theorem g1 : false = Rows.localBackRow.goesBy Tryz.pinned.checked.prog := by kernel_rfl
theorem g2 : (([26, 3] : List Nat).all fun u => !Tryz.pinned.checked.prog.wantsStandIn u) = true := by kernel_rfl
theorem g3 : Rows.localBackRow.wfByText (OpenSpec.ofChange Rows.localBackSpec) = true := by kernel_rfl
end Go.Proofs.YtodmkipcgfodkaaGreatDoor.localBack
end
