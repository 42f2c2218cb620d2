/- What the functions come to in plain data, with proofs, and what that answers. -/
import Derived.Test.YtcljiciefhabgaaDoorJListBack1
section
set_option linter.unusedVariables false
set_option linter.unusedSimpArgs false
namespace Go.Proofs.YtcljiciefhabgaaDoor.listBack
open Go Go.Proofs.YtcljiciefhabgaaDoor.Eng
theorem a1:Rows.listBackRow.wf (OpenSpec.ofChange Rows.listBackSpec)=true:=by kernel_rfl
theorem a4:Tryd.f3.params.all (Tryd.pinned.checked.prog.readableRec ·)=true:=by kernel_rfl
theorem a5:namedTie Tryd.pinned.checked.prog Rows.listBackRow.named Rows.listBackSpec.vars=true:=by kernel_rfl
theorem b1:(Rows.listBackRow.inPlace == Tryd.pinned.checked.prog.inPlace 3)=true:=by kernel_rfl
theorem b2:(Rows.listBackRow.unfollowed == Tryd.pinned.checked.prog.unfollowed 3)=true:=by kernel_rfl
theorem b3:(Rows.listBackRow.recurses == Tryd.pinned.checked.prog.recurses 3)=true:=by kernel_rfl
theorem b4:(Rows.listBackRow.named == Tryd.pinned.checked.prog.varsNamed 3)=true:=by kernel_rfl
theorem b5:(Rows.listBackRow.maps == (Tryd.f3.params.toList++Rows.listBackSpec.plain.varTypes Tryd.pinned.checked.prog).any (Tryd.pinned.checked.prog.mapsRec ·))=true:=by kernel_rfl
theorem b6:(Rows.listBackRow.ifaces == (Tryd.f3.params.toList++Rows.listBackSpec.plain.varTypes Tryd.pinned.checked.prog).any (Tryd.pinned.checked.prog.ifacesRec ·))=true:=by kernel_rfl
theorem b7:(Rows.listBackRow.mapsOut == Tryd.pinned.checked.prog.mapsAmong Tryd.f3.resultTypes.toList)=true:=by kernel_rfl
theorem b8:(Rows.listBackRow.loops == (Tryd.f3.params.toList++Rows.listBackSpec.plain.varTypes Tryd.pinned.checked.prog).any (Tryd.pinned.checked.prog.loopsFrom ·))=true:=by kernel_rfl
theorem b9:(Rows.listBackRow.wideKeys == (Tryd.f3.params.toList++Rows.listBackSpec.plain.varTypes Tryd.pinned.checked.prog++Tryd.f3.resultTypes.toList).any (Tryd.pinned.checked.prog.wideKeysFrom ·))=true:=by kernel_rfl
theorem c1:Rows.listBackSpec.vars.all (Tryd.pinned.checked.prog.varReadable ·)=true:=by kernel_rfl
theorem c2:Tryd.f3.resultTypes.all (fun t=>Tryd.pinned.checked.prog.readableRec t && decide (t < Tryd.pinned.checked.prog.types.size))=true:=by kernel_rfl
theorem c3:(Rows.listBackRow.ifacesOut == Tryd.f3.resultTypes.toList.any (Tryd.pinned.checked.prog.ifacesRec ·))=true:=by kernel_rfl
theorem c4:(Rows.listBackRow.loopsOut == Tryd.f3.resultTypes.toList.any (Tryd.pinned.checked.prog.loopsFrom ·))=true:=by kernel_rfl
theorem d3:(Rows.listBackRow.pinned == Rows.listBackRow.pinnedBy)=true:=by kernel_rfl
theorem d4:(Rows.listBackRow.veiled == (Tryd.f3.params.toList++Rows.listBackSpec.plain.varTypes Tryd.pinned.checked.prog++Tryd.f3.resultTypes.toList).any (Tryd.pinned.checked.prog.veiledRec ·))=true:=by kernel_rfl
theorem d5:Rows.listBackRow.veiledFits Tryd.pinned.checked.prog Tryd.f3.params.toList (Tryd.f3.params.toList++Rows.listBackSpec.plain.varTypes Tryd.pinned.checked.prog++Tryd.f3.resultTypes.toList)=true:=by kernel_rfl
theorem n1:Tryd.pinned.checked.prog.funcNamed Rows.listBackRow.func=some 3:=by kernel_rfl
theorem n3:Tryd.pinned.checked.prog.funcNamed "epact/epactlaw10.ListBack" = some 3:=by kernel_rfl
theorem n2:Tryd.f3.isInstance Tryd.pinned.checked.prog Rows.listBackRow.origin Rows.listBackRow.targs:=of_decide_eq_true (by kernel_rfl)
theorem wrap:Tryd.f3.isWrapper Tryd.pinned.checked.prog Rows.listBackRow.wrapper Rows.listBackRow.mainSum:=by unfold Func.isWrapper; first | (rw [if_pos (by decide +kernel)]; kernel_rfl) | (rw [if_neg (by decide +kernel)]; exact ⟨rfl,rfl⟩)
theorem closed:joinedFacts Tryd.pinned.checked.prog 3 Tryd.f3 Rows.listBackSpec Rows.listBackRow=true:=joined_mk a1 jp.a2 jp.a3 a4 a5 rfl jp.a7 rfl jp.a9 b1 b2 b3 b4 b5 b6 b7 b8 b9 c1 c2 c3 c4 jp.c5 rfl jp.c7 jp.c8 jp.c9 jp.d1 ⟨rfl,rfl⟩ d3 d4 d5
theorem g1:false=Rows.listBackRow.goesBy Tryd.pinned.checked.prog:=by kernel_rfl
theorem g2:(([24,3]:List Nat).all fun u=>!Tryd.pinned.checked.prog.wantsStandIn u)=true:=by kernel_rfl
theorem g3:Rows.listBackRow.wfByText (OpenSpec.ofChange Rows.listBackSpec)=true:=by kernel_rfl
end Go.Proofs.YtcljiciefhabgaaDoor.listBack
end
