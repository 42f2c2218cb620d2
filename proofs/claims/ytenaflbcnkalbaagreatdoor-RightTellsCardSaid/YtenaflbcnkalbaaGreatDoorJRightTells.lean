/- RightTells: for every input the law returns true, and its arguments read as before. Conditions: the listed package-level variables hold what the program's text lays (tied by the card). -/
import Derived.Test.YtenaflbcnkalbaaGreatDoorJRightTells5
section
set_option linter.unusedVariables false
set_option linter.unusedSimpArgs false
namespace Go.Proofs.YtenaflbcnkalbaaGreatDoor.rightTells
open Go Go.Proofs.YtenaflbcnkalbaaGreatDoor.Eng Go.ChangeShapes Go.WideShapes Go.ChangeAt Go.RowKit Go.Joins Go.Deep
open Go.ChangeMaps (open_string shut_string)
theorem over : Rows.rightTellsRow.holds Tryz.pinned (OpenSpec.ofChange Rows.rightTellsSpec) :=
 OpenClaim.holds_of_wide 3 Tryz.f3 rfl rfl rfl rfl rfl rfl rfl ⟨rfl, rfl, rfl, rfl, rfl⟩ rfl rfl rfl rfl rfl n1 Tryz.func3 closed n2 wrap
  (fun os started H enc _ => lifted os started H enc)
theorem proved : Rows.RightTellsCardSaid :=
 Claim7.holds_tied_plain_at .later [] [.data, .data, .data, .sentinel, .sentinel] true (true, "35a470db3e8ebddad4eea300c88d51d5fc6bc322126da1bb2a8a96779a54ed05") true
  over (fun _ h => by cases h) g3 (fun _ h => by cases h) rightTells_row_tie rfl ⟨rfl, rfl⟩ jp.m1 rfl
  (fun f fn hf hfn => by
   obtain rfl : f = 3 := Option.some.inj ((show Tryz.prog.funcNamed "epact/epactlaw21.RightTells" = some 3 from n3).symm.trans hf) |>.symm
   obtain rfl : fn = Tryz.f3 := (Option.some.inj (Tryz.func3.symm.trans hfn)).symm
   exact ⟨jp.m2, fun j t ht => by
    rw [Tryz.params3] at ht
    have hm : t ∈ ([26, 29, 3] : List Nat) := by simpa using Array.mem_of_getElem? ht
    have hall : (([26, 29, 3] : List Nat).all fun u => !Tryz.prog.wantsStandIn u) = true := g2
    exact (show Tryz.prog.wantsStandIn t = false by simpa using List.all_eq_true.1 hall t hm)⟩)
  g1
#print axioms proved
end Go.Proofs.YtenaflbcnkalbaaGreatDoor.rightTells
end
