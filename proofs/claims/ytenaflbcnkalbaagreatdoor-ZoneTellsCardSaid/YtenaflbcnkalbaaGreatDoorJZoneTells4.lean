/- What the functions come to in plain data, with proofs, and what that answers. -/
import Derived.Test.YtenaflbcnkalbaaGreatDoorJZoneTells3
section
set_option linter.unusedVariables false
set_option linter.unusedSimpArgs false
namespace Go.Proofs.YtenaflbcnkalbaaGreatDoor.zoneTells
open Go Go.Proofs.YtenaflbcnkalbaaGreatDoor.Eng
theorem a1 : Rows.zoneTellsRow.wf (OpenSpec.ofChange Rows.zoneTellsSpec) = true := by kernel_rfl
theorem a4 : Tryz.f20.params.all (Tryz.pinned.checked.prog.readableRec ·) = true := by kernel_rfl
theorem a5 : namedTie Tryz.pinned.checked.prog Rows.zoneTellsRow.named Rows.zoneTellsSpec.vars = true := by kernel_rfl
theorem b1 : (Rows.zoneTellsRow.inPlace == Tryz.pinned.checked.prog.inPlace 20) = true := by kernel_rfl
theorem b2 : (Rows.zoneTellsRow.unfollowed == Tryz.pinned.checked.prog.unfollowed 20) = true := by kernel_rfl
theorem b3 : (Rows.zoneTellsRow.recurses == Tryz.pinned.checked.prog.recurses 20) = true := by kernel_rfl
theorem b4 : (Rows.zoneTellsRow.named == Tryz.pinned.checked.prog.varsNamed 20) = true := by kernel_rfl
theorem b5 : (Rows.zoneTellsRow.maps == (Tryz.f20.params.toList ++ Rows.zoneTellsSpec.plain.varTypes Tryz.pinned.checked.prog).any (Tryz.pinned.checked.prog.mapsRec ·)) = true := by kernel_rfl
theorem b6 : (Rows.zoneTellsRow.ifaces == (Tryz.f20.params.toList ++ Rows.zoneTellsSpec.plain.varTypes Tryz.pinned.checked.prog).any (Tryz.pinned.checked.prog.ifacesRec ·)) = true := by kernel_rfl
theorem b7 : (Rows.zoneTellsRow.mapsOut == Tryz.pinned.checked.prog.mapsAmong Tryz.f20.resultTypes.toList) = true := by kernel_rfl
theorem b8 : (Rows.zoneTellsRow.loops == (Tryz.f20.params.toList ++ Rows.zoneTellsSpec.plain.varTypes Tryz.pinned.checked.prog).any (Tryz.pinned.checked.prog.loopsFrom ·)) = true := by kernel_rfl
theorem b9 : (Rows.zoneTellsRow.wideKeys == (Tryz.f20.params.toList ++ Rows.zoneTellsSpec.plain.varTypes Tryz.pinned.checked.prog ++ Tryz.f20.resultTypes.toList).any (Tryz.pinned.checked.prog.wideKeysFrom ·)) = true := by kernel_rfl
theorem c1 : Rows.zoneTellsSpec.vars.all (Tryz.pinned.checked.prog.varReadable ·) = true := by kernel_rfl
theorem c2 : Tryz.f20.resultTypes.all (fun t => Tryz.pinned.checked.prog.readableRec t && decide (t < Tryz.pinned.checked.prog.types.size)) = true := by kernel_rfl
theorem c3 : (Rows.zoneTellsRow.ifacesOut == Tryz.f20.resultTypes.toList.any (Tryz.pinned.checked.prog.ifacesRec ·)) = true := by kernel_rfl
theorem c4 : (Rows.zoneTellsRow.loopsOut == Tryz.f20.resultTypes.toList.any (Tryz.pinned.checked.prog.loopsFrom ·)) = true := by kernel_rfl
theorem d3 : (Rows.zoneTellsRow.pinned == Rows.zoneTellsRow.pinnedBy) = true := by kernel_rfl
theorem d4 : (Rows.zoneTellsRow.veiled == (Tryz.f20.params.toList ++ Rows.zoneTellsSpec.plain.varTypes Tryz.pinned.checked.prog ++ Tryz.f20.resultTypes.toList).any (Tryz.pinned.checked.prog.veiledRec ·)) = true := by kernel_rfl
theorem d5 : Rows.zoneTellsRow.veiledFits Tryz.pinned.checked.prog Tryz.f20.params.toList (Tryz.f20.params.toList ++ Rows.zoneTellsSpec.plain.varTypes Tryz.pinned.checked.prog ++ Tryz.f20.resultTypes.toList) = true := by kernel_rfl
theorem n1 : Tryz.pinned.checked.prog.funcNamed Rows.zoneTellsRow.func = some 20 := by kernel_rfl
theorem n3 : Tryz.pinned.checked.prog.funcNamed "epact/epactlaw19.ZoneTells" = some 20 := by kernel_rfl
theorem n2 : Tryz.f20.isInstance Tryz.pinned.checked.prog Rows.zoneTellsRow.origin Rows.zoneTellsRow.targs := of_decide_eq_true (by kernel_rfl)
theorem wrap : Tryz.f20.isWrapper Tryz.pinned.checked.prog Rows.zoneTellsRow.wrapper Rows.zoneTellsRow.mainSum := by unfold Func.isWrapper; first | (rw [if_pos (by decide +kernel)]; kernel_rfl) | (rw [if_neg (by decide +kernel)]; exact ⟨rfl, rfl⟩)
theorem closed : joinedFacts Tryz.pinned.checked.prog 20 Tryz.f20 Rows.zoneTellsSpec Rows.zoneTellsRow = true := joined_mk a1 jp.a2 jp.a3 a4 a5 rfl jp.a7 rfl jp.a9 b1 b2 b3 b4 b5 b6 b7 b8 b9 c1 c2 c3 c4 jp.c5 rfl jp.c7 jp.c8 jp.c9 jp.d1 ⟨rfl, rfl⟩ d3 d4 d5
theorem g1 : false = Rows.zoneTellsRow.goesBy Tryz.pinned.checked.prog := by kernel_rfl
theorem g2 : (([26, 3, 26] : List Nat).all fun u => !Tryz.pinned.checked.prog.wantsStandIn u) = true := by kernel_rfl
theorem g3 : Rows.zoneTellsRow.wfByText (OpenSpec.ofChange Rows.zoneTellsSpec) = true := by kernel_rfl
end Go.Proofs.YtenaflbcnkalbaaGreatDoor.zoneTells
end
