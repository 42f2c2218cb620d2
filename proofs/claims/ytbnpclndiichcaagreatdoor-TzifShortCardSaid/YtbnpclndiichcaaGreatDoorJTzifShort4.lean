/- What the functions come to in plain data, with proofs, and what that answers. -/
import Derived.Test.YtbnpclndiichcaaGreatDoorJTzifShort3
section
set_option linter.unusedVariables false
set_option linter.unusedSimpArgs false
namespace Go.Proofs.YtbnpclndiichcaaGreatDoor.tzifShort
open Go Go.Proofs.YtbnpclndiichcaaGreatDoor.Eng
theorem a1 : Rows.tzifShortRow.wf (OpenSpec.ofChange Rows.tzifShortSpec) = true := by kernel_rfl
theorem a4 : Tryz.f4.params.all (Tryz.pinned.checked.prog.readableRec ·) = true := by kernel_rfl
theorem a5 : namedTie Tryz.pinned.checked.prog Rows.tzifShortRow.named Rows.tzifShortSpec.vars = true := by kernel_rfl
theorem b1 : (Rows.tzifShortRow.inPlace == Tryz.pinned.checked.prog.inPlace 4) = true := by kernel_rfl
theorem b2 : (Rows.tzifShortRow.unfollowed == Tryz.pinned.checked.prog.unfollowed 4) = true := by kernel_rfl
theorem b3 : (Rows.tzifShortRow.recurses == Tryz.pinned.checked.prog.recurses 4) = true := by kernel_rfl
theorem b4 : (Rows.tzifShortRow.named == Tryz.pinned.checked.prog.varsNamed 4) = true := by kernel_rfl
theorem b5 : (Rows.tzifShortRow.maps == (Tryz.f4.params.toList ++ Rows.tzifShortSpec.plain.varTypes Tryz.pinned.checked.prog).any (Tryz.pinned.checked.prog.mapsRec ·)) = true := by kernel_rfl
theorem b6 : (Rows.tzifShortRow.ifaces == (Tryz.f4.params.toList ++ Rows.tzifShortSpec.plain.varTypes Tryz.pinned.checked.prog).any (Tryz.pinned.checked.prog.ifacesRec ·)) = true := by kernel_rfl
theorem b7 : (Rows.tzifShortRow.mapsOut == Tryz.pinned.checked.prog.mapsAmong Tryz.f4.resultTypes.toList) = true := by kernel_rfl
theorem b8 : (Rows.tzifShortRow.loops == (Tryz.f4.params.toList ++ Rows.tzifShortSpec.plain.varTypes Tryz.pinned.checked.prog).any (Tryz.pinned.checked.prog.loopsFrom ·)) = true := by kernel_rfl
theorem b9 : (Rows.tzifShortRow.wideKeys == (Tryz.f4.params.toList ++ Rows.tzifShortSpec.plain.varTypes Tryz.pinned.checked.prog ++ Tryz.f4.resultTypes.toList).any (Tryz.pinned.checked.prog.wideKeysFrom ·)) = true := by kernel_rfl
theorem c1 : Rows.tzifShortSpec.vars.all (Tryz.pinned.checked.prog.varReadable ·) = true := by kernel_rfl
theorem c2 : Tryz.f4.resultTypes.all (fun t => Tryz.pinned.checked.prog.readableRec t && decide (t < Tryz.pinned.checked.prog.types.size)) = true := by kernel_rfl
theorem c3 : (Rows.tzifShortRow.ifacesOut == Tryz.f4.resultTypes.toList.any (Tryz.pinned.checked.prog.ifacesRec ·)) = true := by kernel_rfl
theorem c4 : (Rows.tzifShortRow.loopsOut == Tryz.f4.resultTypes.toList.any (Tryz.pinned.checked.prog.loopsFrom ·)) = true := by kernel_rfl
theorem d3 : (Rows.tzifShortRow.pinned == Rows.tzifShortRow.pinnedBy) = true := by kernel_rfl
theorem d4 : (Rows.tzifShortRow.veiled == (Tryz.f4.params.toList ++ Rows.tzifShortSpec.plain.varTypes Tryz.pinned.checked.prog ++ Tryz.f4.resultTypes.toList).any (Tryz.pinned.checked.prog.veiledRec ·)) = true := by kernel_rfl
theorem d5 : Rows.tzifShortRow.veiledFits Tryz.pinned.checked.prog Tryz.f4.params.toList (Tryz.f4.params.toList ++ Rows.tzifShortSpec.plain.varTypes Tryz.pinned.checked.prog ++ Tryz.f4.resultTypes.toList) = true := by kernel_rfl
theorem n1 : Tryz.pinned.checked.prog.funcNamed Rows.tzifShortRow.func = some 4 := by kernel_rfl
theorem n3 : Tryz.pinned.checked.prog.funcNamed "epact/epactlaw20.TzifShort" = some 4 := by kernel_rfl
theorem n2 : Tryz.f4.isInstance Tryz.pinned.checked.prog Rows.tzifShortRow.origin Rows.tzifShortRow.targs := of_decide_eq_true (by kernel_rfl)
theorem wrap : Tryz.f4.isWrapper Tryz.pinned.checked.prog Rows.tzifShortRow.wrapper Rows.tzifShortRow.mainSum := by unfold Func.isWrapper; first | (rw [if_pos (by decide +kernel)]; kernel_rfl) | (rw [if_neg (by decide +kernel)]; exact ⟨rfl, rfl⟩)
theorem closed : joinedFacts Tryz.pinned.checked.prog 4 Tryz.f4 Rows.tzifShortSpec Rows.tzifShortRow = true := joined_mk a1 jp.a2 jp.a3 a4 a5 rfl jp.a7 rfl jp.a9 b1 b2 b3 b4 b5 b6 b7 b8 b9 c1 c2 c3 c4 jp.c5 rfl jp.c7 jp.c8 jp.c9 jp.d1 ⟨rfl, rfl⟩ d3 d4 d5
theorem g1 : false = Rows.tzifShortRow.goesBy Tryz.pinned.checked.prog := by kernel_rfl
theorem g2 : (([26, 3, 27] : List Nat).all fun u => !Tryz.pinned.checked.prog.wantsStandIn u) = true := by kernel_rfl
theorem g3 : Rows.tzifShortRow.wfByText (OpenSpec.ofChange Rows.tzifShortSpec) = true := by kernel_rfl
end Go.Proofs.YtbnpclndiichcaaGreatDoor.tzifShort
end
