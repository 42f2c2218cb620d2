/- ListTells: for every input the law returns true, and its arguments read as before. Conditions: the listed package-level variables hold what the program's text lays (tied by the card). -/
import Derived.Test.YtdjldmolhkkipaaGreatDoorJListTells4
section
set_option linter.unusedVariables false
set_option linter.unusedSimpArgs false
namespace Go.Proofs.YtdjldmolhkkipaaGreatDoor.listTells
open Go Go.Proofs.YtdjldmolhkkipaaGreatDoor.Eng Go.ChangeShapes Go.WideShapes Go.ChangeAt Go.RowKit Go.Joins Go.Deep
open Go.ChangeMaps (open_string shut_string)
theorem over:Rows.listTellsRow.holds Tryz.pinned (OpenSpec.ofChange Rows.listTellsSpec) :=
 OpenClaim.holds_of_wide 3 Tryz.f3 rfl rfl rfl rfl rfl rfl rfl ⟨rfl,rfl,rfl,rfl,rfl⟩ rfl rfl rfl rfl rfl n1 Tryz.func3 closed n2 wrap
  (fun os started H enc _=>lifted os started H enc)
theorem proved:Rows.ListTellsCardSaid :=
 Claim7.holds_tied_plain_at .later [] [.data,.data,.data,.data,.pinned] true (true,"43e4d049025f0c88a6702a82cc41fce696d3051669739b64ed9718935ab263e7") false
  over (fun _ h=>by cases h) g3 (fun _ h=>by cases h) listTells_row_tie rfl ⟨rfl,rfl⟩ jp.m1 rfl
  (fun f fn hf hfn=>by
   obtain rfl:f=3:=Option.some.inj ((show Tryz.prog.funcNamed "epact/epactlaw10.ListTells" = some 3 from n3).symm.trans hf) |>.symm
   obtain rfl:fn=Tryz.f3:=(Option.some.inj (Tryz.func3.symm.trans hfn)).symm
   exact ⟨jp.m2,fun j t ht=>by
    rw [Tryz.params3] at ht
    have hm:t∈([9,24,3]:List Nat):=by simpa using Array.mem_of_getElem? ht
    have hall:(([9,24,3]:List Nat).all fun u=>!Tryz.prog.wantsStandIn u)=true:=g2
    exact (show Tryz.prog.wantsStandIn t=false by simpa using List.all_eq_true.1 hall t hm)⟩)
  g1
#print axioms proved
end Go.Proofs.YtdjldmolhkkipaaGreatDoor.listTells
end
