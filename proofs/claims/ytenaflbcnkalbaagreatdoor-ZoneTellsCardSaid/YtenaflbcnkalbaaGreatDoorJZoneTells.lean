/- ZoneTells: for every input the law returns true, and its arguments read as before. Conditions: the listed package-level variables hold what the program's text lays (tied by the card). -/
import Derived.Test.YtenaflbcnkalbaaGreatDoorJZoneTells5
section
set_option linter.unusedVariables false
set_option linter.unusedSimpArgs false
namespace Go.Proofs.YtenaflbcnkalbaaGreatDoor.zoneTells
open Go Go.Proofs.YtenaflbcnkalbaaGreatDoor.Eng Go.ChangeShapes Go.WideShapes Go.ChangeAt Go.RowKit Go.Joins Go.Deep
open Go.ChangeMaps (open_string shut_string)
set_option linter.unusedVariables false
set_option linter.unusedSimpArgs false
theorem over : Rows.zoneTellsRow.holds Tryz.pinned (OpenSpec.ofChange Rows.zoneTellsSpec) :=
  OpenClaim.holds_of_wide 20 Tryz.f20 rfl rfl rfl rfl rfl rfl rfl ⟨rfl, rfl, rfl, rfl, rfl⟩ rfl rfl rfl rfl rfl n1 Tryz.func20 closed n2 wrap
    (fun os started H enc _ => lifted os started H enc)
theorem proved : Rows.ZoneTellsCardSaid :=
  Claim7.holds_tied_plain_at .later [] [.data, .data, .data, .sentinel, .sentinel] true (true, "35a470db3e8ebddad4eea300c88d51d5fc6bc322126da1bb2a8a96779a54ed05") true
    over (fun _ h => by cases h) g3 (fun _ h => by cases h) zoneTells_row_tie rfl ⟨rfl, rfl⟩ jp.m1 rfl
    (fun f fn hf hfn => by
      obtain rfl : f = 20 := Option.some.inj ((show Tryz.prog.funcNamed "epact/epactlaw19.ZoneTells" = some 20 from n3).symm.trans hf) |>.symm
      obtain rfl : fn = Tryz.f20 := (Option.some.inj (Tryz.func20.symm.trans hfn)).symm
      exact ⟨jp.m2, fun j t ht => by
        rw [Tryz.params20] at ht
        have hm : t ∈ ([26, 3, 26] : List Nat) := by simpa using Array.mem_of_getElem? ht
        have hall : (([26, 3, 26] : List Nat).all fun u => !Tryz.prog.wantsStandIn u) = true := g2
        exact (show Tryz.prog.wantsStandIn t = false by simpa using List.all_eq_true.1 hall t hm)⟩)
    g1
#print axioms proved
end Go.Proofs.YtenaflbcnkalbaaGreatDoor.zoneTells
end
