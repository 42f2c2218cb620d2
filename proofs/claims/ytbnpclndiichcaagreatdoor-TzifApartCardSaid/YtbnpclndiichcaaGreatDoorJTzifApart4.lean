/- What the functions come to in plain data, with proofs, and what that answers. -/
import Derived.Test.YtbnpclndiichcaaGreatDoorJTzifApart3
section
set_option linter.unusedVariables false
set_option linter.unusedSimpArgs false
namespace Go.Proofs.YtbnpclndiichcaaGreatDoor.tzifApart
open Go Go.Proofs.YtbnpclndiichcaaGreatDoor.Eng
theorem a1 : Rows.tzifApartRow.wf (OpenSpec.ofChange Rows.tzifApartSpec) = true := by kernel_rfl
theorem a4 : Tryz.f7.params.all (Tryz.pinned.checked.prog.readableRec ·) = true := by kernel_rfl
theorem a5 : namedTie Tryz.pinned.checked.prog Rows.tzifApartRow.named Rows.tzifApartSpec.vars = true := by kernel_rfl
theorem b1 : (Rows.tzifApartRow.inPlace == Tryz.pinned.checked.prog.inPlace 7) = true := by kernel_rfl
theorem b2 : (Rows.tzifApartRow.unfollowed == Tryz.pinned.checked.prog.unfollowed 7) = true := by kernel_rfl
theorem b3 : (Rows.tzifApartRow.recurses == Tryz.pinned.checked.prog.recurses 7) = true := by kernel_rfl
theorem b4 : (Rows.tzifApartRow.named == Tryz.pinned.checked.prog.varsNamed 7) = true := by kernel_rfl
theorem b5 : (Rows.tzifApartRow.maps == (Tryz.f7.params.toList ++ Rows.tzifApartSpec.plain.varTypes Tryz.pinned.checked.prog).any (Tryz.pinned.checked.prog.mapsRec ·)) = true := by kernel_rfl
theorem b6 : (Rows.tzifApartRow.ifaces == (Tryz.f7.params.toList ++ Rows.tzifApartSpec.plain.varTypes Tryz.pinned.checked.prog).any (Tryz.pinned.checked.prog.ifacesRec ·)) = true := by kernel_rfl
theorem b7 : (Rows.tzifApartRow.mapsOut == Tryz.pinned.checked.prog.mapsAmong Tryz.f7.resultTypes.toList) = true := by kernel_rfl
theorem b8 : (Rows.tzifApartRow.loops == (Tryz.f7.params.toList ++ Rows.tzifApartSpec.plain.varTypes Tryz.pinned.checked.prog).any (Tryz.pinned.checked.prog.loopsFrom ·)) = true := by kernel_rfl
theorem b9 : (Rows.tzifApartRow.wideKeys == (Tryz.f7.params.toList ++ Rows.tzifApartSpec.plain.varTypes Tryz.pinned.checked.prog ++ Tryz.f7.resultTypes.toList).any (Tryz.pinned.checked.prog.wideKeysFrom ·)) = true := by kernel_rfl
theorem c1 : Rows.tzifApartSpec.vars.all (Tryz.pinned.checked.prog.varReadable ·) = true := by kernel_rfl
theorem c2 : Tryz.f7.resultTypes.all (fun t => Tryz.pinned.checked.prog.readableRec t && decide (t < Tryz.pinned.checked.prog.types.size)) = true := by kernel_rfl
theorem c3 : (Rows.tzifApartRow.ifacesOut == Tryz.f7.resultTypes.toList.any (Tryz.pinned.checked.prog.ifacesRec ·)) = true := by kernel_rfl
theorem c4 : (Rows.tzifApartRow.loopsOut == Tryz.f7.resultTypes.toList.any (Tryz.pinned.checked.prog.loopsFrom ·)) = true := by kernel_rfl
theorem d3 : (Rows.tzifApartRow.pinned == Rows.tzifApartRow.pinnedBy) = true := by kernel_rfl
theorem d4 : (Rows.tzifApartRow.veiled == (Tryz.f7.params.toList ++ Rows.tzifApartSpec.plain.varTypes Tryz.pinned.checked.prog ++ Tryz.f7.resultTypes.toList).any (Tryz.pinned.checked.prog.veiledRec ·)) = true := by kernel_rfl
theorem d5 : Rows.tzifApartRow.veiledFits Tryz.pinned.checked.prog Tryz.f7.params.toList (Tryz.f7.params.toList ++ Rows.tzifApartSpec.plain.varTypes Tryz.pinned.checked.prog ++ Tryz.f7.resultTypes.toList) = true := by kernel_rfl
theorem n1 : Tryz.pinned.checked.prog.funcNamed Rows.tzifApartRow.func = some 7 := by kernel_rfl
theorem n3 : Tryz.pinned.checked.prog.funcNamed "epact/epactlaw20.TzifApart" = some 7 := by kernel_rfl
theorem n2 : Tryz.f7.isInstance Tryz.pinned.checked.prog Rows.tzifApartRow.origin Rows.tzifApartRow.targs := of_decide_eq_true (by kernel_rfl)
theorem wrap : Tryz.f7.isWrapper Tryz.pinned.checked.prog Rows.tzifApartRow.wrapper Rows.tzifApartRow.mainSum := by unfold Func.isWrapper; first | (rw [if_pos (by decide +kernel)]; kernel_rfl) | (rw [if_neg (by decide +kernel)]; exact ⟨rfl, rfl⟩)
theorem closed : joinedFacts Tryz.pinned.checked.prog 7 Tryz.f7 Rows.tzifApartSpec Rows.tzifApartRow = true := joined_mk a1 jp.a2 jp.a3 a4 a5 rfl jp.a7 rfl jp.a9 b1 b2 b3 b4 b5 b6 b7 b8 b9 c1 c2 c3 c4 jp.c5 rfl jp.c7 jp.c8 jp.c9 jp.d1 ⟨rfl, rfl⟩ d3 d4 d5
theorem g1 : false = Rows.tzifApartRow.goesBy Tryz.pinned.checked.prog := by kernel_rfl
theorem g2 : (([26, 26] : List Nat).all fun u => !Tryz.pinned.checked.prog.wantsStandIn u) = true := by kernel_rfl
theorem g3 : Rows.tzifApartRow.wfByText (OpenSpec.ofChange Rows.tzifApartSpec) = true := by kernel_rfl
end Go.Proofs.YtbnpclndiichcaaGreatDoor.tzifApart
end
