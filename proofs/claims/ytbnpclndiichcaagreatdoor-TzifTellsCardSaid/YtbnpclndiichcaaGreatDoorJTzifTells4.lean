/- What the functions come to in plain data, with proofs, and what that answers. -/
import Derived.Test.YtbnpclndiichcaaGreatDoorJTzifTells3
section
set_option linter.unusedVariables false
set_option linter.unusedSimpArgs false
namespace Go.Proofs.YtbnpclndiichcaaGreatDoor.tzifTells
open Go Go.Proofs.YtbnpclndiichcaaGreatDoor.Eng
theorem a1:Rows.tzifTellsRow.wf (OpenSpec.ofChange Rows.tzifTellsSpec)=true:=by kernel_rfl
theorem a4:Tryz.f3.params.all (Tryz.pinned.checked.prog.readableRec ·)=true:=by kernel_rfl
theorem a5:namedTie Tryz.pinned.checked.prog Rows.tzifTellsRow.named Rows.tzifTellsSpec.vars=true:=by kernel_rfl
theorem b1:(Rows.tzifTellsRow.inPlace == Tryz.pinned.checked.prog.inPlace 3)=true:=by kernel_rfl
theorem b2:(Rows.tzifTellsRow.unfollowed == Tryz.pinned.checked.prog.unfollowed 3)=true:=by kernel_rfl
theorem b3:(Rows.tzifTellsRow.recurses == Tryz.pinned.checked.prog.recurses 3)=true:=by kernel_rfl
theorem b4:(Rows.tzifTellsRow.named == Tryz.pinned.checked.prog.varsNamed 3)=true:=by kernel_rfl
theorem b5:(Rows.tzifTellsRow.maps == (Tryz.f3.params.toList++Rows.tzifTellsSpec.plain.varTypes Tryz.pinned.checked.prog).any (Tryz.pinned.checked.prog.mapsRec ·))=true:=by kernel_rfl
theorem b6:(Rows.tzifTellsRow.ifaces == (Tryz.f3.params.toList++Rows.tzifTellsSpec.plain.varTypes Tryz.pinned.checked.prog).any (Tryz.pinned.checked.prog.ifacesRec ·))=true:=by kernel_rfl
theorem b7:(Rows.tzifTellsRow.mapsOut == Tryz.pinned.checked.prog.mapsAmong Tryz.f3.resultTypes.toList)=true:=by kernel_rfl
theorem b8:(Rows.tzifTellsRow.loops == (Tryz.f3.params.toList++Rows.tzifTellsSpec.plain.varTypes Tryz.pinned.checked.prog).any (Tryz.pinned.checked.prog.loopsFrom ·))=true:=by kernel_rfl
theorem b9:(Rows.tzifTellsRow.wideKeys == (Tryz.f3.params.toList++Rows.tzifTellsSpec.plain.varTypes Tryz.pinned.checked.prog++Tryz.f3.resultTypes.toList).any (Tryz.pinned.checked.prog.wideKeysFrom ·))=true:=by kernel_rfl
theorem c1:Rows.tzifTellsSpec.vars.all (Tryz.pinned.checked.prog.varReadable ·)=true:=by kernel_rfl
theorem c2:Tryz.f3.resultTypes.all (fun t=>Tryz.pinned.checked.prog.readableRec t && decide (t < Tryz.pinned.checked.prog.types.size))=true:=by kernel_rfl
theorem c3:(Rows.tzifTellsRow.ifacesOut == Tryz.f3.resultTypes.toList.any (Tryz.pinned.checked.prog.ifacesRec ·))=true:=by kernel_rfl
theorem c4:(Rows.tzifTellsRow.loopsOut == Tryz.f3.resultTypes.toList.any (Tryz.pinned.checked.prog.loopsFrom ·))=true:=by kernel_rfl
theorem d3:(Rows.tzifTellsRow.pinned == Rows.tzifTellsRow.pinnedBy)=true:=by kernel_rfl
theorem d4:(Rows.tzifTellsRow.veiled == (Tryz.f3.params.toList++Rows.tzifTellsSpec.plain.varTypes Tryz.pinned.checked.prog++Tryz.f3.resultTypes.toList).any (Tryz.pinned.checked.prog.veiledRec ·))=true:=by kernel_rfl
theorem d5:Rows.tzifTellsRow.veiledFits Tryz.pinned.checked.prog Tryz.f3.params.toList (Tryz.f3.params.toList++Rows.tzifTellsSpec.plain.varTypes Tryz.pinned.checked.prog++Tryz.f3.resultTypes.toList)=true:=by kernel_rfl
theorem n1:Tryz.pinned.checked.prog.funcNamed Rows.tzifTellsRow.func=some 3:=by kernel_rfl
theorem n3:Tryz.pinned.checked.prog.funcNamed "epact/epactlaw20.TzifTells" = some 3:=by kernel_rfl
theorem n2:Tryz.f3.isInstance Tryz.pinned.checked.prog Rows.tzifTellsRow.origin Rows.tzifTellsRow.targs:=of_decide_eq_true (by kernel_rfl)
theorem wrap:Tryz.f3.isWrapper Tryz.pinned.checked.prog Rows.tzifTellsRow.wrapper Rows.tzifTellsRow.mainSum:=by unfold Func.isWrapper; first | (rw [if_pos (by decide +kernel)]; kernel_rfl) | (rw [if_neg (by decide +kernel)]; exact ⟨rfl,rfl⟩)
theorem closed:joinedFacts Tryz.pinned.checked.prog 3 Tryz.f3 Rows.tzifTellsSpec Rows.tzifTellsRow=true:=joined_mk a1 jp.a2 jp.a3 a4 a5 rfl jp.a7 rfl jp.a9 b1 b2 b3 b4 b5 b6 b7 b8 b9 c1 c2 c3 c4 jp.c5 rfl jp.c7 jp.c8 jp.c9 jp.d1 ⟨rfl,rfl⟩ d3 d4 d5
theorem g1:false=Rows.tzifTellsRow.goesBy Tryz.pinned.checked.prog:=by kernel_rfl
theorem g2:(([26,27]:List Nat).all fun u=>!Tryz.pinned.checked.prog.wantsStandIn u)=true:=by kernel_rfl
theorem g3:Rows.tzifTellsRow.wfByText (OpenSpec.ofChange Rows.tzifTellsSpec)=true:=by kernel_rfl
end Go.Proofs.YtbnpclndiichcaaGreatDoor.tzifTells
end
