/- What the functions come to in plain data, with proofs, and what that answers. -/
import Derived.Test.YtbnpclndiichcaaGreatDoorJLocalTells3
section
set_option linter.unusedVariables false
set_option linter.unusedSimpArgs false
namespace Go.Proofs.YtbnpclndiichcaaGreatDoor.localTells
open Go Go.Proofs.YtbnpclndiichcaaGreatDoor.Eng
theorem a1:Rows.localTellsRow.wf (OpenSpec.ofChange Rows.localTellsSpec)=true:=by kernel_rfl
theorem a4:Tryz.f8.params.all (Tryz.pinned.checked.prog.readableRec ·)=true:=by kernel_rfl
theorem a5:namedTie Tryz.pinned.checked.prog Rows.localTellsRow.named Rows.localTellsSpec.vars=true:=by kernel_rfl
theorem b1:(Rows.localTellsRow.inPlace == Tryz.pinned.checked.prog.inPlace 8)=true:=by kernel_rfl
theorem b2:(Rows.localTellsRow.unfollowed == Tryz.pinned.checked.prog.unfollowed 8)=true:=by kernel_rfl
theorem b3:(Rows.localTellsRow.recurses == Tryz.pinned.checked.prog.recurses 8)=true:=by kernel_rfl
theorem b4:(Rows.localTellsRow.named == Tryz.pinned.checked.prog.varsNamed 8)=true:=by kernel_rfl
theorem b5:(Rows.localTellsRow.maps == (Tryz.f8.params.toList++Rows.localTellsSpec.plain.varTypes Tryz.pinned.checked.prog).any (Tryz.pinned.checked.prog.mapsRec ·))=true:=by kernel_rfl
theorem b6:(Rows.localTellsRow.ifaces == (Tryz.f8.params.toList++Rows.localTellsSpec.plain.varTypes Tryz.pinned.checked.prog).any (Tryz.pinned.checked.prog.ifacesRec ·))=true:=by kernel_rfl
theorem b7:(Rows.localTellsRow.mapsOut == Tryz.pinned.checked.prog.mapsAmong Tryz.f8.resultTypes.toList)=true:=by kernel_rfl
theorem b8:(Rows.localTellsRow.loops == (Tryz.f8.params.toList++Rows.localTellsSpec.plain.varTypes Tryz.pinned.checked.prog).any (Tryz.pinned.checked.prog.loopsFrom ·))=true:=by kernel_rfl
theorem b9:(Rows.localTellsRow.wideKeys == (Tryz.f8.params.toList++Rows.localTellsSpec.plain.varTypes Tryz.pinned.checked.prog++Tryz.f8.resultTypes.toList).any (Tryz.pinned.checked.prog.wideKeysFrom ·))=true:=by kernel_rfl
theorem c1:Rows.localTellsSpec.vars.all (Tryz.pinned.checked.prog.varReadable ·)=true:=by kernel_rfl
theorem c2:Tryz.f8.resultTypes.all (fun t=>Tryz.pinned.checked.prog.readableRec t && decide (t < Tryz.pinned.checked.prog.types.size))=true:=by kernel_rfl
theorem c3:(Rows.localTellsRow.ifacesOut == Tryz.f8.resultTypes.toList.any (Tryz.pinned.checked.prog.ifacesRec ·))=true:=by kernel_rfl
theorem c4:(Rows.localTellsRow.loopsOut == Tryz.f8.resultTypes.toList.any (Tryz.pinned.checked.prog.loopsFrom ·))=true:=by kernel_rfl
theorem d3:(Rows.localTellsRow.pinned == Rows.localTellsRow.pinnedBy)=true:=by kernel_rfl
theorem d4:(Rows.localTellsRow.veiled == (Tryz.f8.params.toList++Rows.localTellsSpec.plain.varTypes Tryz.pinned.checked.prog++Tryz.f8.resultTypes.toList).any (Tryz.pinned.checked.prog.veiledRec ·))=true:=by kernel_rfl
theorem d5:Rows.localTellsRow.veiledFits Tryz.pinned.checked.prog Tryz.f8.params.toList (Tryz.f8.params.toList++Rows.localTellsSpec.plain.varTypes Tryz.pinned.checked.prog++Tryz.f8.resultTypes.toList)=true:=by kernel_rfl
theorem n1:Tryz.pinned.checked.prog.funcNamed Rows.localTellsRow.func=some 8:=by kernel_rfl
theorem n3:Tryz.pinned.checked.prog.funcNamed "epact/epactlaw24.LocalTells" = some 8:=by kernel_rfl
theorem n2:Tryz.f8.isInstance Tryz.pinned.checked.prog Rows.localTellsRow.origin Rows.localTellsRow.targs:=of_decide_eq_true (by kernel_rfl)
theorem wrap:Tryz.f8.isWrapper Tryz.pinned.checked.prog Rows.localTellsRow.wrapper Rows.localTellsRow.mainSum:=by unfold Func.isWrapper; first | (rw [if_pos (by decide +kernel)]; kernel_rfl) | (rw [if_neg (by decide +kernel)]; exact ⟨rfl,rfl⟩)
theorem closed:joinedFacts Tryz.pinned.checked.prog 8 Tryz.f8 Rows.localTellsSpec Rows.localTellsRow=true:=joined_mk a1 jp.a2 jp.a3 a4 a5 rfl jp.a7 rfl jp.a9 b1 b2 b3 b4 b5 b6 b7 b8 b9 c1 c2 c3 c4 jp.c5 rfl jp.c7 jp.c8 jp.c9 jp.d1 ⟨rfl,rfl⟩ d3 d4 d5
theorem g1:false=Rows.localTellsRow.goesBy Tryz.pinned.checked.prog:=by kernel_rfl
theorem g2:(([26,3,48,9]:List Nat).all fun u=>!Tryz.pinned.checked.prog.wantsStandIn u)=true:=by kernel_rfl
theorem g3:Rows.localTellsRow.wfByText (OpenSpec.ofChange Rows.localTellsSpec)=true:=by kernel_rfl
end Go.Proofs.YtbnpclndiichcaaGreatDoor.localTells
end
