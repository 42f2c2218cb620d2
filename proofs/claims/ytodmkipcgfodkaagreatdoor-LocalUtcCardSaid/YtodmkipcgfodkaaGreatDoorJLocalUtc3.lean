/- What the functions come to in plain data, with proofs, and what that answers. -/
import Derived.Test.YtodmkipcgfodkaaGreatDoorJLocalUtc2
section
set_option linter.unusedVariables false
set_option linter.unusedSimpArgs false
namespace Go.Proofs.YtodmkipcgfodkaaGreatDoor.localUtc
open Go Go.Proofs.YtodmkipcgfodkaaGreatDoor.Eng
theorem a1 : Rows.localUtcRow.wf (OpenSpec.ofChange Rows.localUtcSpec) = true := by kernel_rfl
theorem a4 : Tryz.f14.params.all (Tryz.pinned.checked.prog.readableRec ·) = true := by kernel_rfl
theorem a5 : namedTie Tryz.pinned.checked.prog Rows.localUtcRow.named Rows.localUtcSpec.vars = true := by kernel_rfl
theorem b1 : (Rows.localUtcRow.inPlace == Tryz.pinned.checked.prog.inPlace 14) = true := by kernel_rfl
theorem b2 : (Rows.localUtcRow.unfollowed == Tryz.pinned.checked.prog.unfollowed 14) = true := by kernel_rfl
theorem b3 : (Rows.localUtcRow.recurses == Tryz.pinned.checked.prog.recurses 14) = true := by kernel_rfl
theorem b4 : (Rows.localUtcRow.named == Tryz.pinned.checked.prog.varsNamed 14) = true := by kernel_rfl
theorem b5 : (Rows.localUtcRow.maps == (Tryz.f14.params.toList ++ Rows.localUtcSpec.plain.varTypes Tryz.pinned.checked.prog).any (Tryz.pinned.checked.prog.mapsRec ·)) = true := by kernel_rfl
theorem b6 : (Rows.localUtcRow.ifaces == (Tryz.f14.params.toList ++ Rows.localUtcSpec.plain.varTypes Tryz.pinned.checked.prog).any (Tryz.pinned.checked.prog.ifacesRec ·)) = true := by kernel_rfl
theorem b7 : (Rows.localUtcRow.mapsOut == Tryz.pinned.checked.prog.mapsAmong Tryz.f14.resultTypes.toList) = true := by kernel_rfl
theorem b8 : (Rows.localUtcRow.loops == (Tryz.f14.params.toList ++ Rows.localUtcSpec.plain.varTypes Tryz.pinned.checked.prog).any (Tryz.pinned.checked.prog.loopsFrom ·)) = true := by kernel_rfl
theorem b9 : (Rows.localUtcRow.wideKeys == (Tryz.f14.params.toList ++ Rows.localUtcSpec.plain.varTypes Tryz.pinned.checked.prog ++ Tryz.f14.resultTypes.toList).any (Tryz.pinned.checked.prog.wideKeysFrom ·)) = true := by kernel_rfl
theorem c1 : Rows.localUtcSpec.vars.all (Tryz.pinned.checked.prog.varReadable ·) = true := by kernel_rfl
theorem c2 : Tryz.f14.resultTypes.all (fun t => Tryz.pinned.checked.prog.readableRec t && decide (t < Tryz.pinned.checked.prog.types.size)) = true := by kernel_rfl
theorem c3 : (Rows.localUtcRow.ifacesOut == Tryz.f14.resultTypes.toList.any (Tryz.pinned.checked.prog.ifacesRec ·)) = true := by kernel_rfl
theorem c4 : (Rows.localUtcRow.loopsOut == Tryz.f14.resultTypes.toList.any (Tryz.pinned.checked.prog.loopsFrom ·)) = true := by kernel_rfl
theorem d3 : (Rows.localUtcRow.pinned == Rows.localUtcRow.pinnedBy) = true := by kernel_rfl
theorem d4 : (Rows.localUtcRow.veiled == (Tryz.f14.params.toList ++ Rows.localUtcSpec.plain.varTypes Tryz.pinned.checked.prog ++ Tryz.f14.resultTypes.toList).any (Tryz.pinned.checked.prog.veiledRec ·)) = true := by kernel_rfl
theorem d5 : Rows.localUtcRow.veiledFits Tryz.pinned.checked.prog Tryz.f14.params.toList (Tryz.f14.params.toList ++ Rows.localUtcSpec.plain.varTypes Tryz.pinned.checked.prog ++ Tryz.f14.resultTypes.toList) = true := by kernel_rfl
theorem n1 : Tryz.pinned.checked.prog.funcNamed Rows.localUtcRow.func = some 14 := by kernel_rfl
theorem n3 : Tryz.pinned.checked.prog.funcNamed "epact/epactlaw24.LocalUtc" = some 14 := by kernel_rfl
theorem n2 : Tryz.f14.isInstance Tryz.pinned.checked.prog Rows.localUtcRow.origin Rows.localUtcRow.targs := of_decide_eq_true (by kernel_rfl)
theorem wrap : Tryz.f14.isWrapper Tryz.pinned.checked.prog Rows.localUtcRow.wrapper Rows.localUtcRow.mainSum := by unfold Func.isWrapper; first | (rw [if_pos (by decide +kernel)]; kernel_rfl) | (rw [if_neg (by decide +kernel)]; exact ⟨rfl, rfl⟩)
theorem closed : joinedFacts Tryz.pinned.checked.prog 14 Tryz.f14 Rows.localUtcSpec Rows.localUtcRow = true := joined_mk a1 jp.a2 jp.a3 a4 a5 rfl jp.a7 rfl jp.a9 b1 b2 b3 b4 b5 b6 b7 b8 b9 c1 c2 c3 c4 jp.c5 rfl jp.c7 jp.c8 jp.c9 jp.d1 ⟨rfl, rfl⟩ d3 d4 d5
theorem g1 : false = Rows.localUtcRow.goesBy Tryz.pinned.checked.prog := by kernel_rfl
theorem g2 : (([24, 3] : List Nat).all fun u => !Tryz.pinned.checked.prog.wantsStandIn u) = true := by kernel_rfl
theorem g3 : Rows.localUtcRow.wfByText (OpenSpec.ofChange Rows.localUtcSpec) = true := by kernel_rfl
end Go.Proofs.YtodmkipcgfodkaaGreatDoor.localUtc
end
