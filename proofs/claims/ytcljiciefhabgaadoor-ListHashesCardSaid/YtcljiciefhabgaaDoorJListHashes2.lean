/- What the functions come to in plain data, with proofs, and what that answers. -/
import Derived.Test.YtcljiciefhabgaaDoorJListHashes1
section
set_option linter.unusedVariables false
set_option linter.unusedSimpArgs false
namespace Go.Proofs.YtcljiciefhabgaaDoor.listHashes
open Go Go.Proofs.YtcljiciefhabgaaDoor.Eng
theorem a1:Rows.listHashesRow.wf (OpenSpec.ofChange Rows.listHashesSpec)=true:=by kernel_rfl
theorem a4:Tryd.f6.params.all (Tryd.pinned.checked.prog.readableRec ·)=true:=by kernel_rfl
theorem a5:namedTie Tryd.pinned.checked.prog Rows.listHashesRow.named Rows.listHashesSpec.vars=true:=by kernel_rfl
theorem b1:(Rows.listHashesRow.inPlace == Tryd.pinned.checked.prog.inPlace 6)=true:=by kernel_rfl
theorem b2:(Rows.listHashesRow.unfollowed == Tryd.pinned.checked.prog.unfollowed 6)=true:=by kernel_rfl
theorem b3:(Rows.listHashesRow.recurses == Tryd.pinned.checked.prog.recurses 6)=true:=by kernel_rfl
theorem b4:(Rows.listHashesRow.named == Tryd.pinned.checked.prog.varsNamed 6)=true:=by kernel_rfl
theorem b5:(Rows.listHashesRow.maps == (Tryd.f6.params.toList++Rows.listHashesSpec.plain.varTypes Tryd.pinned.checked.prog).any (Tryd.pinned.checked.prog.mapsRec ·))=true:=by kernel_rfl
theorem b6:(Rows.listHashesRow.ifaces == (Tryd.f6.params.toList++Rows.listHashesSpec.plain.varTypes Tryd.pinned.checked.prog).any (Tryd.pinned.checked.prog.ifacesRec ·))=true:=by kernel_rfl
theorem b7:(Rows.listHashesRow.mapsOut == Tryd.pinned.checked.prog.mapsAmong Tryd.f6.resultTypes.toList)=true:=by kernel_rfl
theorem b8:(Rows.listHashesRow.loops == (Tryd.f6.params.toList++Rows.listHashesSpec.plain.varTypes Tryd.pinned.checked.prog).any (Tryd.pinned.checked.prog.loopsFrom ·))=true:=by kernel_rfl
theorem b9:(Rows.listHashesRow.wideKeys == (Tryd.f6.params.toList++Rows.listHashesSpec.plain.varTypes Tryd.pinned.checked.prog++Tryd.f6.resultTypes.toList).any (Tryd.pinned.checked.prog.wideKeysFrom ·))=true:=by kernel_rfl
theorem c1:Rows.listHashesSpec.vars.all (Tryd.pinned.checked.prog.varReadable ·)=true:=by kernel_rfl
theorem c2:Tryd.f6.resultTypes.all (fun t=>Tryd.pinned.checked.prog.readableRec t && decide (t < Tryd.pinned.checked.prog.types.size))=true:=by kernel_rfl
theorem c3:(Rows.listHashesRow.ifacesOut == Tryd.f6.resultTypes.toList.any (Tryd.pinned.checked.prog.ifacesRec ·))=true:=by kernel_rfl
theorem c4:(Rows.listHashesRow.loopsOut == Tryd.f6.resultTypes.toList.any (Tryd.pinned.checked.prog.loopsFrom ·))=true:=by kernel_rfl
theorem d3:(Rows.listHashesRow.pinned == Rows.listHashesRow.pinnedBy)=true:=by kernel_rfl
theorem d4:(Rows.listHashesRow.veiled == (Tryd.f6.params.toList++Rows.listHashesSpec.plain.varTypes Tryd.pinned.checked.prog++Tryd.f6.resultTypes.toList).any (Tryd.pinned.checked.prog.veiledRec ·))=true:=by kernel_rfl
theorem d5:Rows.listHashesRow.veiledFits Tryd.pinned.checked.prog Tryd.f6.params.toList (Tryd.f6.params.toList++Rows.listHashesSpec.plain.varTypes Tryd.pinned.checked.prog++Tryd.f6.resultTypes.toList)=true:=by kernel_rfl
theorem n1:Tryd.pinned.checked.prog.funcNamed Rows.listHashesRow.func=some 6:=by kernel_rfl
theorem n3:Tryd.pinned.checked.prog.funcNamed "epact/epactlaw10.ListHashes" = some 6:=by kernel_rfl
theorem n2:Tryd.f6.isInstance Tryd.pinned.checked.prog Rows.listHashesRow.origin Rows.listHashesRow.targs:=of_decide_eq_true (by kernel_rfl)
theorem wrap:Tryd.f6.isWrapper Tryd.pinned.checked.prog Rows.listHashesRow.wrapper Rows.listHashesRow.mainSum:=by unfold Func.isWrapper; first | (rw [if_pos (by decide +kernel)]; kernel_rfl) | (rw [if_neg (by decide +kernel)]; exact ⟨rfl,rfl⟩)
theorem closed:joinedFacts Tryd.pinned.checked.prog 6 Tryd.f6 Rows.listHashesSpec Rows.listHashesRow=true:=joined_mk a1 jp.a2 jp.a3 a4 a5 rfl jp.a7 rfl jp.a9 b1 b2 b3 b4 b5 b6 b7 b8 b9 c1 c2 c3 c4 jp.c5 rfl jp.c7 jp.c8 jp.c9 jp.d1 ⟨rfl,rfl⟩ d3 d4 d5
theorem g1:false=Rows.listHashesRow.goesBy Tryd.pinned.checked.prog:=by kernel_rfl
theorem g2:(([9,45]:List Nat).all fun u=>!Tryd.pinned.checked.prog.wantsStandIn u)=true:=by kernel_rfl
theorem g3:Rows.listHashesRow.wfByText (OpenSpec.ofChange Rows.listHashesSpec)=true:=by kernel_rfl
end Go.Proofs.YtcljiciefhabgaaDoor.listHashes
end
