/- ListRight: for every input the law returns true, and its arguments read as before. Conditions: the listed package-level variables hold what the program's text lays (tied by the card). -/
import Derived.Test.YtcljiciefhabgaaDoorJListRight3
section
set_option linter.unusedVariables false
set_option linter.unusedSimpArgs false
namespace Go.Proofs.YtcljiciefhabgaaDoor.listRight
open Go Go.Proofs.YtcljiciefhabgaaDoor.Eng Go.ChangeShapes Go.WideShapes Go.ChangeAt Go.RowKit Go.Joins Go.Deep
open Go.ChangeMaps (open_string shut_string)
theorem over:Rows.listRightRow.holds Tryd.pinned (OpenSpec.ofChange Rows.listRightSpec) :=
 OpenClaim.holds_of_wide 4 Tryd.f4 rfl rfl rfl rfl rfl rfl rfl ⟨rfl,rfl,rfl,rfl,rfl⟩ rfl rfl rfl rfl rfl n1 Tryd.func4 closed n2 wrap
  (fun os started H enc _=>lifted os started H enc)
theorem proved:Rows.ListRightCardSaid :=
 Claim7.holds_tied_plain_at .later [] [.data,.data,.data,.data,.pinned] true (true,"45bd0d4ae8968e9542c8584594e15b909071ee20f10842d032f5eaad04f76b83") false
  over (fun _ h=>by cases h) g3 (fun _ h=>by cases h) listRight_row_tie rfl ⟨rfl,rfl⟩ jp.m1 rfl
  (fun f fn hf hfn=>by
   obtain rfl:f=4:=Option.some.inj ((show Tryd.prog.funcNamed "epact/epactlaw10.ListRight" = some 4 from n3).symm.trans hf) |>.symm
   obtain rfl:fn=Tryd.f4:=(Option.some.inj (Tryd.func4.symm.trans hfn)).symm
   exact ⟨jp.m2,fun j t ht=>by
    rw [Tryd.params4] at ht
    have hm:t∈([9]:List Nat):=by simpa using Array.mem_of_getElem? ht
    have hall:(([9]:List Nat).all fun u=>!Tryd.prog.wantsStandIn u)=true:=g2
    exact (show Tryd.prog.wantsStandIn t=false by simpa using List.all_eq_true.1 hall t hm)⟩)
  g1
#print axioms proved
end Go.Proofs.YtcljiciefhabgaaDoor.listRight
end
