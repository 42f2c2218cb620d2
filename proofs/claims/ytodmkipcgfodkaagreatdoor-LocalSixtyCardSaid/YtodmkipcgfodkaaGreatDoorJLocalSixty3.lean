/- What the functions come to in plain data, with proofs, and what that answers. -/
import Derived.Test.YtodmkipcgfodkaaGreatDoorJLocalSixty2
section
set_option linter.unusedVariables false
set_option linter.unusedSimpArgs false
namespace Go.Proofs.YtodmkipcgfodkaaGreatDoor.localSixty
open Go Go.Proofs.YtodmkipcgfodkaaGreatDoor.Eng
theorem a1 : Rows.localSixtyRow.wf (OpenSpec.ofChange Rows.localSixtySpec) = true := by kernel_rfl
theorem a4 : Tryz.f13.params.all (Tryz.pinned.checked.prog.readableRec ·) = true := by kernel_rfl
theorem a5 : namedTie Tryz.pinned.checked.prog Rows.localSixtyRow.named Rows.localSixtySpec.vars = true := by kernel_rfl
theorem b1 : (Rows.localSixtyRow.inPlace == Tryz.pinned.checked.prog.inPlace 13) = true := by kernel_rfl
theorem b2 : (Rows.localSixtyRow.unfollowed == Tryz.pinned.checked.prog.unfollowed 13) = true := by kernel_rfl
theorem b3 : (Rows.localSixtyRow.recurses == Tryz.pinned.checked.prog.recurses 13) = true := by kernel_rfl
theorem b4 : (Rows.localSixtyRow.named == Tryz.pinned.checked.prog.varsNamed 13) = true := by kernel_rfl
theorem b5 : (Rows.localSixtyRow.maps == (Tryz.f13.params.toList ++ Rows.localSixtySpec.plain.varTypes Tryz.pinned.checked.prog).any (Tryz.pinned.checked.prog.mapsRec ·)) = true := by kernel_rfl
theorem b6 : (Rows.localSixtyRow.ifaces == (Tryz.f13.params.toList ++ Rows.localSixtySpec.plain.varTypes Tryz.pinned.checked.prog).any (Tryz.pinned.checked.prog.ifacesRec ·)) = true := by kernel_rfl
theorem b7 : (Rows.localSixtyRow.mapsOut == Tryz.pinned.checked.prog.mapsAmong Tryz.f13.resultTypes.toList) = true := by kernel_rfl
theorem b8 : (Rows.localSixtyRow.loops == (Tryz.f13.params.toList ++ Rows.localSixtySpec.plain.varTypes Tryz.pinned.checked.prog).any (Tryz.pinned.checked.prog.loopsFrom ·)) = true := by kernel_rfl
theorem b9 : (Rows.localSixtyRow.wideKeys == (Tryz.f13.params.toList ++ Rows.localSixtySpec.plain.varTypes Tryz.pinned.checked.prog ++ Tryz.f13.resultTypes.toList).any (Tryz.pinned.checked.prog.wideKeysFrom ·)) = true := by kernel_rfl
theorem c1 : Rows.localSixtySpec.vars.all (Tryz.pinned.checked.prog.varReadable ·) = true := by kernel_rfl
theorem c2 : Tryz.f13.resultTypes.all (fun t => Tryz.pinned.checked.prog.readableRec t && decide (t < Tryz.pinned.checked.prog.types.size)) = true := by kernel_rfl
theorem c3 : (Rows.localSixtyRow.ifacesOut == Tryz.f13.resultTypes.toList.any (Tryz.pinned.checked.prog.ifacesRec ·)) = true := by kernel_rfl
theorem c4 : (Rows.localSixtyRow.loopsOut == Tryz.f13.resultTypes.toList.any (Tryz.pinned.checked.prog.loopsFrom ·)) = true := by kernel_rfl
theorem d3 : (Rows.localSixtyRow.pinned == Rows.localSixtyRow.pinnedBy) = true := by kernel_rfl
theorem d4 : (Rows.localSixtyRow.veiled == (Tryz.f13.params.toList ++ Rows.localSixtySpec.plain.varTypes Tryz.pinned.checked.prog ++ Tryz.f13.resultTypes.toList).any (Tryz.pinned.checked.prog.veiledRec ·)) = true := by kernel_rfl
theorem d5 : Rows.localSixtyRow.veiledFits Tryz.pinned.checked.prog Tryz.f13.params.toList (Tryz.f13.params.toList ++ Rows.localSixtySpec.plain.varTypes Tryz.pinned.checked.prog ++ Tryz.f13.resultTypes.toList) = true := by kernel_rfl
theorem n1 : Tryz.pinned.checked.prog.funcNamed Rows.localSixtyRow.func = some 13 := by kernel_rfl
theorem n3 : Tryz.pinned.checked.prog.funcNamed "epact/epactlaw24.LocalSixty" = some 13 := by kernel_rfl
theorem n2 : Tryz.f13.isInstance Tryz.pinned.checked.prog Rows.localSixtyRow.origin Rows.localSixtyRow.targs := of_decide_eq_true (by kernel_rfl)
theorem wrap : Tryz.f13.isWrapper Tryz.pinned.checked.prog Rows.localSixtyRow.wrapper Rows.localSixtyRow.mainSum := by unfold Func.isWrapper; first | (rw [if_pos (by decide +kernel)]; kernel_rfl) | (rw [if_neg (by decide +kernel)]; exact ⟨rfl, rfl⟩)
theorem closed : joinedFacts Tryz.pinned.checked.prog 13 Tryz.f13 Rows.localSixtySpec Rows.localSixtyRow = true := joined_mk a1 jp.a2 jp.a3 a4 a5 rfl jp.a7 rfl jp.a9 b1 b2 b3 b4 b5 b6 b7 b8 b9 c1 c2 c3 c4 jp.c5 rfl jp.c7 jp.c8 jp.c9 jp.d1 ⟨rfl, rfl⟩ d3 d4 d5
theorem g1 : false = Rows.localSixtyRow.goesBy Tryz.pinned.checked.prog := by kernel_rfl
theorem g2 : (([26, 3] : List Nat).all fun u => !Tryz.pinned.checked.prog.wantsStandIn u) = true := by kernel_rfl
theorem g3 : Rows.localSixtyRow.wfByText (OpenSpec.ofChange Rows.localSixtySpec) = true := by kernel_rfl
end Go.Proofs.YtodmkipcgfodkaaGreatDoor.localSixty
end
