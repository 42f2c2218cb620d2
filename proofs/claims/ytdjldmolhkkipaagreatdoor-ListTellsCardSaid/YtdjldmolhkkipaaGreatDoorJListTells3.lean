/- What the functions come to in plain data, with proofs, and what that answers. -/
import Derived.Test.YtdjldmolhkkipaaGreatDoorJListTells2
section
set_option linter.unusedVariables false
set_option linter.unusedSimpArgs false
namespace Go.Proofs.YtdjldmolhkkipaaGreatDoor.listTells
open Go Go.Proofs.YtdjldmolhkkipaaGreatDoor.Eng
theorem a1:Rows.listTellsRow.wf (OpenSpec.ofChange Rows.listTellsSpec)=true:=by kernel_rfl
theorem a4:Tryz.f3.params.all (Tryz.pinned.checked.prog.readableRec ·)=true:=by kernel_rfl
theorem a5:namedTie Tryz.pinned.checked.prog Rows.listTellsRow.named Rows.listTellsSpec.vars=true:=by kernel_rfl
theorem b1:(Rows.listTellsRow.inPlace == Tryz.pinned.checked.prog.inPlace 3)=true:=by kernel_rfl
theorem b2:(Rows.listTellsRow.unfollowed == Tryz.pinned.checked.prog.unfollowed 3)=true:=by kernel_rfl
theorem b3:(Rows.listTellsRow.recurses == Tryz.pinned.checked.prog.recurses 3)=true:=by kernel_rfl
theorem b4:(Rows.listTellsRow.named == Tryz.pinned.checked.prog.varsNamed 3)=true:=by kernel_rfl
theorem b5:(Rows.listTellsRow.maps == (Tryz.f3.params.toList++Rows.listTellsSpec.plain.varTypes Tryz.pinned.checked.prog).any (Tryz.pinned.checked.prog.mapsRec ·))=true:=by kernel_rfl
theorem b6:(Rows.listTellsRow.ifaces == (Tryz.f3.params.toList++Rows.listTellsSpec.plain.varTypes Tryz.pinned.checked.prog).any (Tryz.pinned.checked.prog.ifacesRec ·))=true:=by kernel_rfl
theorem b7:(Rows.listTellsRow.mapsOut == Tryz.pinned.checked.prog.mapsAmong Tryz.f3.resultTypes.toList)=true:=by kernel_rfl
theorem b8:(Rows.listTellsRow.loops == (Tryz.f3.params.toList++Rows.listTellsSpec.plain.varTypes Tryz.pinned.checked.prog).any (Tryz.pinned.checked.prog.loopsFrom ·))=true:=by kernel_rfl
theorem b9:(Rows.listTellsRow.wideKeys == (Tryz.f3.params.toList++Rows.listTellsSpec.plain.varTypes Tryz.pinned.checked.prog++Tryz.f3.resultTypes.toList).any (Tryz.pinned.checked.prog.wideKeysFrom ·))=true:=by kernel_rfl
theorem c1:Rows.listTellsSpec.vars.all (Tryz.pinned.checked.prog.varReadable ·)=true:=by kernel_rfl
theorem c2:Tryz.f3.resultTypes.all (fun t=>Tryz.pinned.checked.prog.readableRec t && decide (t < Tryz.pinned.checked.prog.types.size))=true:=by kernel_rfl
theorem c3:(Rows.listTellsRow.ifacesOut == Tryz.f3.resultTypes.toList.any (Tryz.pinned.checked.prog.ifacesRec ·))=true:=by kernel_rfl
theorem c4:(Rows.listTellsRow.loopsOut == Tryz.f3.resultTypes.toList.any (Tryz.pinned.checked.prog.loopsFrom ·))=true:=by kernel_rfl
theorem d3:(Rows.listTellsRow.pinned == Rows.listTellsRow.pinnedBy)=true:=by kernel_rfl
theorem d4:(Rows.listTellsRow.veiled == (Tryz.f3.params.toList++Rows.listTellsSpec.plain.varTypes Tryz.pinned.checked.prog++Tryz.f3.resultTypes.toList).any (Tryz.pinned.checked.prog.veiledRec ·))=true:=by kernel_rfl
theorem d5:Rows.listTellsRow.veiledFits Tryz.pinned.checked.prog Tryz.f3.params.toList (Tryz.f3.params.toList++Rows.listTellsSpec.plain.varTypes Tryz.pinned.checked.prog++Tryz.f3.resultTypes.toList)=true:=by kernel_rfl
theorem n1:Tryz.pinned.checked.prog.funcNamed Rows.listTellsRow.func=some 3:=by kernel_rfl
theorem n3:Tryz.pinned.checked.prog.funcNamed "epact/epactlaw10.ListTells" = some 3:=by kernel_rfl
theorem n2:Tryz.f3.isInstance Tryz.pinned.checked.prog Rows.listTellsRow.origin Rows.listTellsRow.targs:=of_decide_eq_true (by kernel_rfl)
theorem wrap:Tryz.f3.isWrapper Tryz.pinned.checked.prog Rows.listTellsRow.wrapper Rows.listTellsRow.mainSum:=by unfold Func.isWrapper; first | (rw [if_pos (by decide +kernel)]; kernel_rfl) | (rw [if_neg (by decide +kernel)]; exact ⟨rfl,rfl⟩)
theorem closed:joinedFacts Tryz.pinned.checked.prog 3 Tryz.f3 Rows.listTellsSpec Rows.listTellsRow=true:=joined_mk a1 jp.a2 jp.a3 a4 a5 rfl jp.a7 rfl jp.a9 b1 b2 b3 b4 b5 b6 b7 b8 b9 c1 c2 c3 c4 jp.c5 rfl jp.c7 jp.c8 jp.c9 jp.d1 ⟨rfl,rfl⟩ d3 d4 d5
theorem g1:false=Rows.listTellsRow.goesBy Tryz.pinned.checked.prog:=by kernel_rfl
theorem g2:(([9,24,3]:List Nat).all fun u=>!Tryz.pinned.checked.prog.wantsStandIn u)=true:=by kernel_rfl
theorem g3:Rows.listTellsRow.wfByText (OpenSpec.ofChange Rows.listTellsSpec)=true:=by kernel_rfl
end Go.Proofs.YtdjldmolhkkipaaGreatDoor.listTells
end
