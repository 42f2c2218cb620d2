/- ListHashes: for every input the law returns true, and its arguments read as before. Conditions: the listed package-level variables hold what the program's text lays (tied by the card). -/
import Derived.Test.YtcljiciefhabgaaDoorJListHashes3
section
set_option linter.unusedVariables false
set_option linter.unusedSimpArgs false
namespace Go.Proofs.YtcljiciefhabgaaDoor.listHashes
open Go Go.Proofs.YtcljiciefhabgaaDoor.Eng Go.ChangeShapes Go.WideShapes Go.ChangeAt Go.RowKit Go.Joins Go.Deep
open Go.ChangeMaps (open_string shut_string)
theorem over:Rows.listHashesRow.holds Tryd.pinned (OpenSpec.ofChange Rows.listHashesSpec) :=
 OpenClaim.holds_of_wide 6 Tryd.f6 rfl rfl rfl rfl rfl rfl rfl ⟨rfl,rfl,rfl,rfl,rfl⟩ rfl rfl rfl rfl rfl n1 Tryd.func6 closed n2 wrap
  (fun os started H enc _=>lifted os started H enc)
theorem proved:Rows.ListHashesCardSaid :=
 Claim7.holds_tied_plain_at .later [] [.data,.data,.data,.data,.pinned] true (true,"45bd0d4ae8968e9542c8584594e15b909071ee20f10842d032f5eaad04f76b83") false
  over (fun _ h=>by cases h) g3 (fun _ h=>by cases h) listHashes_row_tie rfl ⟨rfl,rfl⟩ jp.m1 rfl
  (fun f fn hf hfn=>by
   obtain rfl:f=6:=Option.some.inj ((show Tryd.prog.funcNamed "epact/epactlaw10.ListHashes" = some 6 from n3).symm.trans hf) |>.symm
   obtain rfl:fn=Tryd.f6:=(Option.some.inj (Tryd.func6.symm.trans hfn)).symm
   exact ⟨jp.m2,fun j t ht=>by
    rw [Tryd.params6] at ht
    have hm:t∈([9,45]:List Nat):=by simpa using Array.mem_of_getElem? ht
    have hall:(([9,45]:List Nat).all fun u=>!Tryd.prog.wantsStandIn u)=true:=g2
    exact (show Tryd.prog.wantsStandIn t=false by simpa using List.all_eq_true.1 hall t hm)⟩)
  g1
#print axioms proved
end Go.Proofs.YtcljiciefhabgaaDoor.listHashes
end
