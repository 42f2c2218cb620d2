/- What the functions come to in plain data, with proofs, and what that answers. -/
import Derived.Test.YtbnpclndiichcaaGreatDoorJTzifVersions3
section
set_option linter.unusedVariables false
set_option linter.unusedSimpArgs false
namespace Go.Proofs.YtbnpclndiichcaaGreatDoor.tzifVersions
open Go Go.Proofs.YtbnpclndiichcaaGreatDoor.Eng
theorem a1 : Rows.tzifVersionsRow.wf (OpenSpec.ofChange Rows.tzifVersionsSpec) = true := by kernel_rfl
theorem a4 : Tryz.f5.params.all (Tryz.pinned.checked.prog.readableRec ·) = true := by kernel_rfl
theorem a5 : namedTie Tryz.pinned.checked.prog Rows.tzifVersionsRow.named Rows.tzifVersionsSpec.vars = true := by kernel_rfl
theorem b1 : (Rows.tzifVersionsRow.inPlace == Tryz.pinned.checked.prog.inPlace 5) = true := by kernel_rfl
theorem b2 : (Rows.tzifVersionsRow.unfollowed == Tryz.pinned.checked.prog.unfollowed 5) = true := by kernel_rfl
theorem b3 : (Rows.tzifVersionsRow.recurses == Tryz.pinned.checked.prog.recurses 5) = true := by kernel_rfl
theorem b4 : (Rows.tzifVersionsRow.named == Tryz.pinned.checked.prog.varsNamed 5) = true := by kernel_rfl
theorem b5 : (Rows.tzifVersionsRow.maps == (Tryz.f5.params.toList ++ Rows.tzifVersionsSpec.plain.varTypes Tryz.pinned.checked.prog).any (Tryz.pinned.checked.prog.mapsRec ·)) = true := by kernel_rfl
theorem b6 : (Rows.tzifVersionsRow.ifaces == (Tryz.f5.params.toList ++ Rows.tzifVersionsSpec.plain.varTypes Tryz.pinned.checked.prog).any (Tryz.pinned.checked.prog.ifacesRec ·)) = true := by kernel_rfl
theorem b7 : (Rows.tzifVersionsRow.mapsOut == Tryz.pinned.checked.prog.mapsAmong Tryz.f5.resultTypes.toList) = true := by kernel_rfl
theorem b8 : (Rows.tzifVersionsRow.loops == (Tryz.f5.params.toList ++ Rows.tzifVersionsSpec.plain.varTypes Tryz.pinned.checked.prog).any (Tryz.pinned.checked.prog.loopsFrom ·)) = true := by kernel_rfl
theorem b9 : (Rows.tzifVersionsRow.wideKeys == (Tryz.f5.params.toList ++ Rows.tzifVersionsSpec.plain.varTypes Tryz.pinned.checked.prog ++ Tryz.f5.resultTypes.toList).any (Tryz.pinned.checked.prog.wideKeysFrom ·)) = true := by kernel_rfl
theorem c1 : Rows.tzifVersionsSpec.vars.all (Tryz.pinned.checked.prog.varReadable ·) = true := by kernel_rfl
theorem c2 : Tryz.f5.resultTypes.all (fun t => Tryz.pinned.checked.prog.readableRec t && decide (t < Tryz.pinned.checked.prog.types.size)) = true := by kernel_rfl
theorem c3 : (Rows.tzifVersionsRow.ifacesOut == Tryz.f5.resultTypes.toList.any (Tryz.pinned.checked.prog.ifacesRec ·)) = true := by kernel_rfl
theorem c4 : (Rows.tzifVersionsRow.loopsOut == Tryz.f5.resultTypes.toList.any (Tryz.pinned.checked.prog.loopsFrom ·)) = true := by kernel_rfl
theorem d3 : (Rows.tzifVersionsRow.pinned == Rows.tzifVersionsRow.pinnedBy) = true := by kernel_rfl
theorem d4 : (Rows.tzifVersionsRow.veiled == (Tryz.f5.params.toList ++ Rows.tzifVersionsSpec.plain.varTypes Tryz.pinned.checked.prog ++ Tryz.f5.resultTypes.toList).any (Tryz.pinned.checked.prog.veiledRec ·)) = true := by kernel_rfl
theorem d5 : Rows.tzifVersionsRow.veiledFits Tryz.pinned.checked.prog Tryz.f5.params.toList (Tryz.f5.params.toList ++ Rows.tzifVersionsSpec.plain.varTypes Tryz.pinned.checked.prog ++ Tryz.f5.resultTypes.toList) = true := by kernel_rfl
theorem n1 : Tryz.pinned.checked.prog.funcNamed Rows.tzifVersionsRow.func = some 5 := by kernel_rfl
theorem n3 : Tryz.pinned.checked.prog.funcNamed "epact/epactlaw20.TzifVersions" = some 5 := by kernel_rfl
theorem n2 : Tryz.f5.isInstance Tryz.pinned.checked.prog Rows.tzifVersionsRow.origin Rows.tzifVersionsRow.targs := of_decide_eq_true (by kernel_rfl)
theorem wrap : Tryz.f5.isWrapper Tryz.pinned.checked.prog Rows.tzifVersionsRow.wrapper Rows.tzifVersionsRow.mainSum := by unfold Func.isWrapper; first | (rw [if_pos (by decide +kernel)]; kernel_rfl) | (rw [if_neg (by decide +kernel)]; exact ⟨rfl, rfl⟩)
theorem closed : joinedFacts Tryz.pinned.checked.prog 5 Tryz.f5 Rows.tzifVersionsSpec Rows.tzifVersionsRow = true := joined_mk a1 jp.a2 jp.a3 a4 a5 rfl jp.a7 rfl jp.a9 b1 b2 b3 b4 b5 b6 b7 b8 b9 c1 c2 c3 c4 jp.c5 rfl jp.c7 jp.c8 jp.c9 jp.d1 ⟨rfl, rfl⟩ d3 d4 d5
theorem g1 : false = Rows.tzifVersionsRow.goesBy Tryz.pinned.checked.prog := by kernel_rfl
theorem g2 : (([26, 3] : List Nat).all fun u => !Tryz.pinned.checked.prog.wantsStandIn u) = true := by kernel_rfl
theorem g3 : Rows.tzifVersionsRow.wfByText (OpenSpec.ofChange Rows.tzifVersionsSpec) = true := by kernel_rfl
end Go.Proofs.YtbnpclndiichcaaGreatDoor.tzifVersions
end
