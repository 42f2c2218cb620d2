/- RuleDays over numbers alone. -/
import Derived.Test.YtghjemcbkackjaaDoorStRuleDays
import Derived.Test.YtghjemcbkackjaaDoorPRule3
import Derived.OpenShut
namespace Go.Proofs.YtghjemcbkackjaaDoor.Pure
open Go.RowKit Go.Proofs.YtghjemcbkackjaaDoorW.PrintWords Go.Proofs.YtghjemcbkackjaaDoor.F Go.Proofs.YtghjemcbkackjaaDoor.P Go.Proofs.YtghjemcbkackjaaDoor.T Go.Proofs.YtghjemcbkackjaaDoor.Cal
set_option linter.unusedVariables false
set_option linter.unusedSimpArgs false

theorem wf_bd {x : Int} (h : (Lit.int .i64 x).wf = true) : -9223372036854775808 ≤ x ∧ x ≤ 9223372036854775807 := by
  have := bounds_i64 h; omega
theorem out_j0 (k : Nat) (y : Int) (A B C D E : Int) : epactlaw17_RuleDays.j0 (k + 1) y true true A B C D E = some true := by
  simp only [epactlaw17_RuleDays.j0, if_true]
theorem RuleDays : epactlaw17_RuleDays.PureG := by
  intro K A B C X y hK hA hB hC hX hy
  have hA' := wf_bd hA
  refine ⟨5, ?_⟩
  unfold epactlaw17_RuleDays.f epactlaw17_smallF.f
  simp only [Option.bind_some]
  rw [right_eq]
  simp only [Option.bind_some]
  by_cases hr : rightR K A B C X = true
  · rw [if_pos hr]
    by_cases h0 : K = 0
    · rw [if_pos h0]
      by_cases h1 : y < 1
      · rw [if_pos h1, out_j0]
      · rw [if_neg h1]
        by_cases h2 : y > 9999
        · rw [show decide (y > 9999) = true by simpa using h2, out_j0]
        · rw [show decide (y > 9999) = false by simpa using h2]
          have hyy : 1 ≤ y ∧ y ≤ 9999 := by omega
          have hr' := (right_iff K A B C X).1 hr
          have hq : 1 ≤ A ∧ A ≤ 12 ∧ 1 ≤ B ∧ B ≤ 5 ∧ 0 ≤ C ∧ C ≤ 6 := by omega
          obtain ⟨o1, o2, o3⟩ := off_bd (A := A) (C := C) (y := y) hq.2.2.1 hq.2.2.2.1
          have hd := dim_bd y A
          have hv : Vld y A (offW A B C y + 1) := ⟨hyy.1, hyy.2, hq.1, hq.2.1, by omega, by omega⟩
          have e : num y A (offW A B C y + 1) = num y A 1 + offW A B C y := by unfold num; omega
          have hdn := date_num hv
          have hrg := num_range hv
          have hday : ruleDay K A B C y = num y A 1 + offW A B C y := by unfold ruleDay; rw [if_neg (by omega), if_neg (by omega)]
          simp only [epactlaw17_RuleDays.j0, Bool.false_eq_true, if_false]
          rw [day_eq 2 K A B C X y hA']
          simp only [Option.bind_some]
          rw [if_pos (And.intro hyy hr), show decide ((1 ≤ y ∧ y ≤ 9999) ∧ rightR K A B C X = true) = true by simp only [decide_eq_true_eq]; exact ⟨hyy, hr⟩, hday, ← e, date_eq, if_pos hrg, last_eq, hdn.1, hdn.2.1, hdn.2.2]
          simp only [Option.bind_some, if_true]
          rw [week_eq]
          simp only [Option.bind_some]
          have hw : wk (num y A (offW A B C y + 1)) = C := by
            rw [e]; unfold wk at *; omega
          rw [hw, show (C != C) = false by simp, if_pos (show 1 ≤ y ∧ y ≤ 9999 ∧ 1 ≤ A ∧ A ≤ 12 by omega)]
          simp only [epactlaw17_RuleDays.j1, Bool.false_eq_true, if_false, if_true]
          have hwb : 0 ≤ wk (num y A 1) ∧ wk (num y A 1) < 7 := by unfold wk; omega
          rw [wrap_in (offW A B C y + 1 + 7) (by omega) (by omega), wrap_in (B - 1) (by omega) (by omega), wrap_in (7 * (B - 1)) (by omega) (by omega), wrap_in (7 * B) (by omega) (by omega)]
          have ho : offW A B C y = if (C - wk (num y A 1) + 7) % 7 + 7 * (B - 1) ≥ dim y A then (C - wk (num y A 1) + 7) % 7 + 7 * (B - 1) - 7 else (C - wk (num y A 1) + 7) % 7 + 7 * (B - 1) := rfl
          have hm : 0 ≤ (C - wk (num y A 1) + 7) % 7 ∧ (C - wk (num y A 1) + 7) % 7 < 7 := by omega
          by_cases h5 : B = 5
          · rw [if_pos h5]
            refine congrArg some (decide_eq_true ?_)
            split at ho <;> omega
          · rw [if_neg h5]
            rw [if_neg (by omega)] at ho
            rw [if_pos (by omega)]
            refine congrArg some (decide_eq_true ?_)
            omega
    · rw [if_neg h0, out_j0]
  · rw [if_neg hr, out_j0]
end Go.Proofs.YtghjemcbkackjaaDoor.Pure
