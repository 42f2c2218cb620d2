/- What the functions come to in plain data, with proofs, and what that answers. -/
import Derived.Test.YtbnpclndiichcaaGreatDoorJZoneBytes2
section
set_option linter.unusedVariables false
set_option linter.unusedSimpArgs false
namespace Go.Proofs.YtbnpclndiichcaaGreatDoor.zoneBytes
open Go Go.Proofs.YtbnpclndiichcaaGreatDoor.Eng
theorem a1 : Rows.zoneBytesRow.wf (OpenSpec.ofChange Rows.zoneBytesSpec) = true := by kernel_rfl
theorem a4 : Tryz.f6.params.all (Tryz.pinned.checked.prog.readableRec ·) = true := by kernel_rfl
theorem a5 : namedTie Tryz.pinned.checked.prog Rows.zoneBytesRow.named Rows.zoneBytesSpec.vars = true := by kernel_rfl
theorem b1 : (Rows.zoneBytesRow.inPlace == Tryz.pinned.checked.prog.inPlace 6) = true := by kernel_rfl
theorem b2 : (Rows.zoneBytesRow.unfollowed == Tryz.pinned.checked.prog.unfollowed 6) = true := by kernel_rfl
theorem b3 : (Rows.zoneBytesRow.recurses == Tryz.pinned.checked.prog.recurses 6) = true := by kernel_rfl
theorem b4 : (Rows.zoneBytesRow.named == Tryz.pinned.checked.prog.varsNamed 6) = true := by kernel_rfl
theorem b5 : (Rows.zoneBytesRow.maps == (Tryz.f6.params.toList ++ Rows.zoneBytesSpec.plain.varTypes Tryz.pinned.checked.prog).any (Tryz.pinned.checked.prog.mapsRec ·)) = true := by kernel_rfl
theorem b6 : (Rows.zoneBytesRow.ifaces == (Tryz.f6.params.toList ++ Rows.zoneBytesSpec.plain.varTypes Tryz.pinned.checked.prog).any (Tryz.pinned.checked.prog.ifacesRec ·)) = true := by kernel_rfl
theorem b7 : (Rows.zoneBytesRow.mapsOut == Tryz.pinned.checked.prog.mapsAmong Tryz.f6.resultTypes.toList) = true := by kernel_rfl
theorem b8 : (Rows.zoneBytesRow.loops == (Tryz.f6.params.toList ++ Rows.zoneBytesSpec.plain.varTypes Tryz.pinned.checked.prog).any (Tryz.pinned.checked.prog.loopsFrom ·)) = true := by kernel_rfl
theorem b9 : (Rows.zoneBytesRow.wideKeys == (Tryz.f6.params.toList ++ Rows.zoneBytesSpec.plain.varTypes Tryz.pinned.checked.prog ++ Tryz.f6.resultTypes.toList).any (Tryz.pinned.checked.prog.wideKeysFrom ·)) = true := by kernel_rfl
theorem c1 : Rows.zoneBytesSpec.vars.all (Tryz.pinned.checked.prog.varReadable ·) = true := by kernel_rfl
theorem c2 : Tryz.f6.resultTypes.all (fun t => Tryz.pinned.checked.prog.readableRec t && decide (t < Tryz.pinned.checked.prog.types.size)) = true := by kernel_rfl
theorem c3 : (Rows.zoneBytesRow.ifacesOut == Tryz.f6.resultTypes.toList.any (Tryz.pinned.checked.prog.ifacesRec ·)) = true := by kernel_rfl
theorem c4 : (Rows.zoneBytesRow.loopsOut == Tryz.f6.resultTypes.toList.any (Tryz.pinned.checked.prog.loopsFrom ·)) = true := by kernel_rfl
theorem d3 : (Rows.zoneBytesRow.pinned == Rows.zoneBytesRow.pinnedBy) = true := by kernel_rfl
theorem d4 : (Rows.zoneBytesRow.veiled == (Tryz.f6.params.toList ++ Rows.zoneBytesSpec.plain.varTypes Tryz.pinned.checked.prog ++ Tryz.f6.resultTypes.toList).any (Tryz.pinned.checked.prog.veiledRec ·)) = true := by kernel_rfl
theorem d5 : Rows.zoneBytesRow.veiledFits Tryz.pinned.checked.prog Tryz.f6.params.toList (Tryz.f6.params.toList ++ Rows.zoneBytesSpec.plain.varTypes Tryz.pinned.checked.prog ++ Tryz.f6.resultTypes.toList) = true := by kernel_rfl
theorem n1 : Tryz.pinned.checked.prog.funcNamed Rows.zoneBytesRow.func = some 6 := by kernel_rfl
theorem n3 : Tryz.pinned.checked.prog.funcNamed "epact/epactlaw19.ZoneBytes" = some 6 := by kernel_rfl
theorem n2 : Tryz.f6.isInstance Tryz.pinned.checked.prog Rows.zoneBytesRow.origin Rows.zoneBytesRow.targs := of_decide_eq_true (by kernel_rfl)
theorem wrap : Tryz.f6.isWrapper Tryz.pinned.checked.prog Rows.zoneBytesRow.wrapper Rows.zoneBytesRow.mainSum := by unfold Func.isWrapper; first | (rw [if_pos (by decide +kernel)]; kernel_rfl) | (rw [if_neg (by decide +kernel)]; exact ⟨rfl, rfl⟩)
theorem closed : joinedFacts Tryz.pinned.checked.prog 6 Tryz.f6 Rows.zoneBytesSpec Rows.zoneBytesRow = true := joined_mk a1 jp.a2 jp.a3 a4 a5 rfl jp.a7 rfl jp.a9 b1 b2 b3 b4 b5 b6 b7 b8 b9 c1 c2 c3 c4 jp.c5 rfl jp.c7 jp.c8 jp.c9 jp.d1 ⟨rfl, rfl⟩ d3 d4 d5
theorem g1 : false = Rows.zoneBytesRow.goesBy Tryz.pinned.checked.prog := by kernel_rfl
theorem g2 : (([26] : List Nat).all fun u => !Tryz.pinned.checked.prog.wantsStandIn u) = true := by kernel_rfl
theorem g3 : Rows.zoneBytesRow.wfByText (OpenSpec.ofChange Rows.zoneBytesSpec) = true := by kernel_rfl
end Go.Proofs.YtbnpclndiichcaaGreatDoor.zoneBytes
end
