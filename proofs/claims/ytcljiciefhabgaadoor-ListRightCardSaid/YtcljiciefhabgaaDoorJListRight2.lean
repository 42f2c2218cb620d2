/- What the functions come to in plain data, with proofs, and what that answers. -/
import Derived.Test.YtcljiciefhabgaaDoorJListRight1
section
set_option linter.unusedVariables false
set_option linter.unusedSimpArgs false
namespace Go.Proofs.YtcljiciefhabgaaDoor.listRight
open Go Go.Proofs.YtcljiciefhabgaaDoor.Eng
theorem a1:Rows.listRightRow.wf (OpenSpec.ofChange Rows.listRightSpec)=true:=by kernel_rfl
theorem a4:Tryd.f4.params.all (Tryd.pinned.checked.prog.readableRec ·)=true:=by kernel_rfl
theorem a5:namedTie Tryd.pinned.checked.prog Rows.listRightRow.named Rows.listRightSpec.vars=true:=by kernel_rfl
theorem b1:(Rows.listRightRow.inPlace == Tryd.pinned.checked.prog.inPlace 4)=true:=by kernel_rfl
theorem b2:(Rows.listRightRow.unfollowed == Tryd.pinned.checked.prog.unfollowed 4)=true:=by kernel_rfl
theorem b3:(Rows.listRightRow.recurses == Tryd.pinned.checked.prog.recurses 4)=true:=by kernel_rfl
theorem b4:(Rows.listRightRow.named == Tryd.pinned.checked.prog.varsNamed 4)=true:=by kernel_rfl
theorem b5:(Rows.listRightRow.maps == (Tryd.f4.params.toList++Rows.listRightSpec.plain.varTypes Tryd.pinned.checked.prog).any (Tryd.pinned.checked.prog.mapsRec ·))=true:=by kernel_rfl
theorem b6:(Rows.listRightRow.ifaces == (Tryd.f4.params.toList++Rows.listRightSpec.plain.varTypes Tryd.pinned.checked.prog).any (Tryd.pinned.checked.prog.ifacesRec ·))=true:=by kernel_rfl
theorem b7:(Rows.listRightRow.mapsOut == Tryd.pinned.checked.prog.mapsAmong Tryd.f4.resultTypes.toList)=true:=by kernel_rfl
theorem b8:(Rows.listRightRow.loops == (Tryd.f4.params.toList++Rows.listRightSpec.plain.varTypes Tryd.pinned.checked.prog).any (Tryd.pinned.checked.prog.loopsFrom ·))=true:=by kernel_rfl
theorem b9:(Rows.listRightRow.wideKeys == (Tryd.f4.params.toList++Rows.listRightSpec.plain.varTypes Tryd.pinned.checked.prog++Tryd.f4.resultTypes.toList).any (Tryd.pinned.checked.prog.wideKeysFrom ·))=true:=by kernel_rfl
theorem c1:Rows.listRightSpec.vars.all (Tryd.pinned.checked.prog.varReadable ·)=true:=by kernel_rfl
theorem c2:Tryd.f4.resultTypes.all (fun t=>Tryd.pinned.checked.prog.readableRec t && decide (t < Tryd.pinned.checked.prog.types.size))=true:=by kernel_rfl
theorem c3:(Rows.listRightRow.ifacesOut == Tryd.f4.resultTypes.toList.any (Tryd.pinned.checked.prog.ifacesRec ·))=true:=by kernel_rfl
theorem c4:(Rows.listRightRow.loopsOut == Tryd.f4.resultTypes.toList.any (Tryd.pinned.checked.prog.loopsFrom ·))=true:=by kernel_rfl
theorem d3:(Rows.listRightRow.pinned == Rows.listRightRow.pinnedBy)=true:=by kernel_rfl
theorem d4:(Rows.listRightRow.veiled == (Tryd.f4.params.toList++Rows.listRightSpec.plain.varTypes Tryd.pinned.checked.prog++Tryd.f4.resultTypes.toList).any (Tryd.pinned.checked.prog.veiledRec ·))=true:=by kernel_rfl
theorem d5:Rows.listRightRow.veiledFits Tryd.pinned.checked.prog Tryd.f4.params.toList (Tryd.f4.params.toList++Rows.listRightSpec.plain.varTypes Tryd.pinned.checked.prog++Tryd.f4.resultTypes.toList)=true:=by kernel_rfl
theorem n1:Tryd.pinned.checked.prog.funcNamed Rows.listRightRow.func=some 4:=by kernel_rfl
theorem n3:Tryd.pinned.checked.prog.funcNamed "epact/epactlaw10.ListRight" = some 4:=by kernel_rfl
theorem n2:Tryd.f4.isInstance Tryd.pinned.checked.prog Rows.listRightRow.origin Rows.listRightRow.targs:=of_decide_eq_true (by kernel_rfl)
theorem wrap:Tryd.f4.isWrapper Tryd.pinned.checked.prog Rows.listRightRow.wrapper Rows.listRightRow.mainSum:=by unfold Func.isWrapper; first | (rw [if_pos (by decide +kernel)]; kernel_rfl) | (rw [if_neg (by decide +kernel)]; exact ⟨rfl,rfl⟩)
theorem closed:joinedFacts Tryd.pinned.checked.prog 4 Tryd.f4 Rows.listRightSpec Rows.listRightRow=true:=joined_mk a1 jp.a2 jp.a3 a4 a5 rfl jp.a7 rfl jp.a9 b1 b2 b3 b4 b5 b6 b7 b8 b9 c1 c2 c3 c4 jp.c5 rfl jp.c7 jp.c8 jp.c9 jp.d1 ⟨rfl,rfl⟩ d3 d4 d5
theorem g1:false=Rows.listRightRow.goesBy Tryd.pinned.checked.prog:=by kernel_rfl
theorem g2:(([9]:List Nat).all fun u=>!Tryd.pinned.checked.prog.wantsStandIn u)=true:=by kernel_rfl
theorem g3:Rows.listRightRow.wfByText (OpenSpec.ofChange Rows.listRightSpec)=true:=by kernel_rfl
end Go.Proofs.YtcljiciefhabgaaDoor.listRight
end
