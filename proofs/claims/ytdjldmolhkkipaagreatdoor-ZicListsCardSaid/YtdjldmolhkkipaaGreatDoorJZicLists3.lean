/- What the functions come to in plain data, with proofs, and what that answers. -/
import Derived.Test.YtdjldmolhkkipaaGreatDoorJZicLists2
section
set_option linter.unusedVariables false
set_option linter.unusedSimpArgs false
namespace Go.Proofs.YtdjldmolhkkipaaGreatDoor.zicLists
open Go Go.Proofs.YtdjldmolhkkipaaGreatDoor.Eng
theorem a1:Rows.zicListsRow.wf (OpenSpec.ofChange Rows.zicListsSpec)=true:=by kernel_rfl
theorem a4:Tryz.f4.params.all (Tryz.pinned.checked.prog.readableRec ·)=true:=by kernel_rfl
theorem a5:namedTie Tryz.pinned.checked.prog Rows.zicListsRow.named Rows.zicListsSpec.vars=true:=by kernel_rfl
theorem b1:(Rows.zicListsRow.inPlace == Tryz.pinned.checked.prog.inPlace 4)=true:=by kernel_rfl
theorem b2:(Rows.zicListsRow.unfollowed == Tryz.pinned.checked.prog.unfollowed 4)=true:=by kernel_rfl
theorem b3:(Rows.zicListsRow.recurses == Tryz.pinned.checked.prog.recurses 4)=true:=by kernel_rfl
theorem b4:(Rows.zicListsRow.named == Tryz.pinned.checked.prog.varsNamed 4)=true:=by kernel_rfl
theorem b5:(Rows.zicListsRow.maps == (Tryz.f4.params.toList++Rows.zicListsSpec.plain.varTypes Tryz.pinned.checked.prog).any (Tryz.pinned.checked.prog.mapsRec ·))=true:=by kernel_rfl
theorem b6:(Rows.zicListsRow.ifaces == (Tryz.f4.params.toList++Rows.zicListsSpec.plain.varTypes Tryz.pinned.checked.prog).any (Tryz.pinned.checked.prog.ifacesRec ·))=true:=by kernel_rfl
theorem b7:(Rows.zicListsRow.mapsOut == Tryz.pinned.checked.prog.mapsAmong Tryz.f4.resultTypes.toList)=true:=by kernel_rfl
theorem b8:(Rows.zicListsRow.loops == (Tryz.f4.params.toList++Rows.zicListsSpec.plain.varTypes Tryz.pinned.checked.prog).any (Tryz.pinned.checked.prog.loopsFrom ·))=true:=by kernel_rfl
theorem b9:(Rows.zicListsRow.wideKeys == (Tryz.f4.params.toList++Rows.zicListsSpec.plain.varTypes Tryz.pinned.checked.prog++Tryz.f4.resultTypes.toList).any (Tryz.pinned.checked.prog.wideKeysFrom ·))=true:=by kernel_rfl
theorem c1:Rows.zicListsSpec.vars.all (Tryz.pinned.checked.prog.varReadable ·)=true:=by kernel_rfl
theorem c2:Tryz.f4.resultTypes.all (fun t=>Tryz.pinned.checked.prog.readableRec t && decide (t < Tryz.pinned.checked.prog.types.size))=true:=by kernel_rfl
theorem c3:(Rows.zicListsRow.ifacesOut == Tryz.f4.resultTypes.toList.any (Tryz.pinned.checked.prog.ifacesRec ·))=true:=by kernel_rfl
theorem c4:(Rows.zicListsRow.loopsOut == Tryz.f4.resultTypes.toList.any (Tryz.pinned.checked.prog.loopsFrom ·))=true:=by kernel_rfl
theorem d3:(Rows.zicListsRow.pinned == Rows.zicListsRow.pinnedBy)=true:=by kernel_rfl
theorem d4:(Rows.zicListsRow.veiled == (Tryz.f4.params.toList++Rows.zicListsSpec.plain.varTypes Tryz.pinned.checked.prog++Tryz.f4.resultTypes.toList).any (Tryz.pinned.checked.prog.veiledRec ·))=true:=by kernel_rfl
theorem d5:Rows.zicListsRow.veiledFits Tryz.pinned.checked.prog Tryz.f4.params.toList (Tryz.f4.params.toList++Rows.zicListsSpec.plain.varTypes Tryz.pinned.checked.prog++Tryz.f4.resultTypes.toList)=true:=by kernel_rfl
theorem n1:Tryz.pinned.checked.prog.funcNamed Rows.zicListsRow.func=some 4:=by kernel_rfl
theorem n3:Tryz.pinned.checked.prog.funcNamed "epact/epactlaw11.ZicLists" = some 4:=by kernel_rfl
theorem n2:Tryz.f4.isInstance Tryz.pinned.checked.prog Rows.zicListsRow.origin Rows.zicListsRow.targs:=of_decide_eq_true (by kernel_rfl)
theorem wrap:Tryz.f4.isWrapper Tryz.pinned.checked.prog Rows.zicListsRow.wrapper Rows.zicListsRow.mainSum:=by unfold Func.isWrapper; first | (rw [if_pos (by decide +kernel)]; kernel_rfl) | (rw [if_neg (by decide +kernel)]; exact ⟨rfl,rfl⟩)
theorem closed:joinedFacts Tryz.pinned.checked.prog 4 Tryz.f4 Rows.zicListsSpec Rows.zicListsRow=true:=joined_mk a1 jp.a2 jp.a3 a4 a5 rfl jp.a7 rfl jp.a9 b1 b2 b3 b4 b5 b6 b7 b8 b9 c1 c2 c3 c4 jp.c5 rfl jp.c7 jp.c8 jp.c9 jp.d1 ⟨rfl,rfl⟩ d3 d4 d5
theorem g1:false=Rows.zicListsRow.goesBy Tryz.pinned.checked.prog:=by kernel_rfl
theorem g2:(([24,3]:List Nat).all fun u=>!Tryz.pinned.checked.prog.wantsStandIn u)=true:=by kernel_rfl
theorem g3:Rows.zicListsRow.wfByText (OpenSpec.ofChange Rows.zicListsSpec)=true:=by kernel_rfl
end Go.Proofs.YtdjldmolhkkipaaGreatDoor.zicLists
end
