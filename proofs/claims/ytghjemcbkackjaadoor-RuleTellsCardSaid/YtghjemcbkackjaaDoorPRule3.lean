/- Which rules are right; a rule's day. -/
import Derived.Test.YtghjemcbkackjaaDoorPDay
import Derived.Test.YtghjemcbkackjaaDoorPRule2
import Derived.Test.YtghjemcbkackjaaDoorPx4
import Derived.Test.YtghjemcbkackjaaDoorPx9
namespace Go.Proofs.YtghjemcbkackjaaDoor.T
open Go.RowKit Go.Proofs.YtghjemcbkackjaaDoorW.PrintWords Go.Proofs.YtghjemcbkackjaaDoor.F Go.Proofs.YtghjemcbkackjaaDoor.P Go.Proofs.YtghjemcbkackjaaDoor.Cal
set_option linter.unusedVariables false
set_option linter.unusedSimpArgs false

def rightR (K A B C X : Int) : Bool :=
  decide ((-604799 ≤ X ∧ X ≤ 604799) ∧ ((K = 0 ∧ 1 ≤ A ∧ A ≤ 12 ∧ 1 ≤ B ∧ B ≤ 5 ∧ 0 ≤ C ∧ C ≤ 6) ∨ (K = 1 ∧ 1 ≤ A ∧ A ≤ 365 ∧ B = 0 ∧ C = 0) ∨ (K = 2 ∧ 0 ≤ A ∧ A ≤ 365 ∧ B = 0 ∧ C = 0)))
theorem right_eq (K A B C X : Int) : rule_Right.f K A B C X = some (rightR K A B C X) := by
  unfold rule_Right.f
  simp only [within_eq, Option.bind_some, decide_eq_true_eq]
  unfold rightR
  repeat' split
  all_goals (refine congrArg some ?_; rw [Bool.eq_iff_iff]; simp only [decide_eq_true_eq, beq_iff_eq, Bool.false_eq_true, false_iff]; omega)
theorem right_iff (K A B C X : Int) : rightR K A B C X = true ↔ ((-604799 ≤ X ∧ X ≤ 604799) ∧ ((K = 0 ∧ 1 ≤ A ∧ A ≤ 12 ∧ 1 ≤ B ∧ B ≤ 5 ∧ 0 ≤ C ∧ C ≤ 6) ∨ (K = 1 ∧ 1 ≤ A ∧ A ≤ 365 ∧ B = 0 ∧ C = 0) ∨ (K = 2 ∧ 0 ≤ A ∧ A ≤ 365 ∧ B = 0 ∧ C = 0))) := by
  unfold rightR; exact decide_eq_true_iff
/-- The place of a rule's day in its month, from 0 on. -/
def offW (A B C y : Int) : Int := let k := (C - wk (num y A 1) + 7) % 7 + 7 * (B - 1); if k ≥ dim y A then k - 7 else k
def ruleDay (K A B C y : Int) : Int := if K = 2 then fst y + A else if K = 1 then (if A ≤ 59 ∨ lp y = false then fst y - 1 + A else fst y + A) else num y A 1 + offW A B C y
theorem num_first (y : Int) : num y 1 1 = fst y := by unfold num cum cum0; simp
theorem dim_jan (y : Int) : dim y 1 = 31 := rfl
theorem off_bd {A B C y : Int} (h1 : 1 ≤ B) (h2 : B ≤ 5) : 0 ≤ offW A B C y ∧ offW A B C y < dim y A ∧ offW A B C y % 7 = (C - wk (num y A 1) + 7) % 7 := by
  have hd := dim_bd y A
  have hw : 0 ≤ wk (num y A 1) ∧ wk (num y A 1) < 7 := by unfold wk; omega
  unfold offW
  simp only []
  split <;> omega
theorem day_eq (k : Nat) (K A B C X y : Int) (hA : -9223372036854775808 ≤ A ∧ A ≤ 9223372036854775807) : rule_Day.f (k + 2) K A B C X y = some (if (1 ≤ y ∧ y ≤ 9999) ∧ rightR K A B C X = true then ruleDay K A B C y else 0, decide ((1 ≤ y ∧ y ≤ 9999) ∧ rightR K A B C X = true)) := by
  unfold rule_Day.f
  rw [number_eq]
  simp only [Option.bind_some, decide_eq_true_eq]
  by_cases hy : 1 ≤ y ∧ y ≤ 9999
  · have hy' : (1 ≤ y ∧ y ≤ 9999 ∧ (1 : Int) ≤ 1 ∧ (1 : Int) ≤ 12 ∧ (1 : Int) ≤ 1 ∧ (1 : Int) ≤ dim y 1) := ⟨hy.1, hy.2, by omega, by omega, by omega, by rw [dim_jan]; omega⟩
    rw [if_pos hy', right_eq, num_first]
    simp only [Option.bind_some]
    rw [if_pos hy']
    have hf := fst_bd hy.1 hy.2
    have hfs := fst_succ y
    cases hr : rightR K A B C X with
    | false =>
      simp only [Bool.not_false, rule_Day.j0, if_true]
      simp
    | true =>
      have hr' := (right_iff K A B C X).1 hr
      simp only [Bool.not_true, rule_Day.j0, Bool.false_eq_true, if_false]
      rw [if_pos (And.intro hy trivial), show decide ((1 ≤ y ∧ y ≤ 9999) ∧ True) = true by simpa using hy]
      have hfu : fst (y + 1) ≤ 2932897 := hf.2
      have hfl : fst y ≤ 2932897 := by have := fst_le (by omega : y ≤ y + 1); omega
      unfold ruleDay
      by_cases h2 : K = 2
      · rw [if_pos h2, if_pos h2, wrap_in _ (by omega) (by omega)]
      · rw [if_neg h2, if_neg h2]
        by_cases h1 : K = 1
        · rw [if_pos h1, if_pos h1]
          by_cases h59 : A ≤ 59
          · rw [if_pos h59, if_pos (.inl h59), wrap_in (fst y - 1) (by omega) (by omega), wrap_in _ (by omega) (by omega)]
          · rw [if_neg h59, leap_eq]
            simp only [Option.bind_some]
            cases hl : lp y with
            | true => rw [if_pos rfl, if_neg (by simp; omega), wrap_in _ (by omega) (by omega)]
            | false => rw [if_neg (by simp), if_pos (.inr rfl), wrap_in (fst y - 1) (by omega) (by omega), wrap_in _ (by omega) (by omega)]
        · rw [if_neg h1, if_neg h1]
          have hK : K = 0 ∧ 1 ≤ A ∧ A ≤ 12 ∧ 1 ≤ B ∧ B ≤ 5 ∧ 0 ≤ C ∧ C ≤ 6 := by omega
          have hd := dim_bd y A
          have hv : Vld y A 1 := ⟨hy.1, hy.2, hK.2.1, hK.2.2.1, by omega, by omega⟩
          have hnb := num_range hv
          rw [number_eq, last_eq]
          simp only [Option.bind_some]
          rw [if_pos (show 1 ≤ y ∧ y ≤ 9999 ∧ 1 ≤ A ∧ A ≤ 12 ∧ (1 : Int) ≤ 1 ∧ (1 : Int) ≤ dim y A by omega), if_pos (show 1 ≤ y ∧ y ≤ 9999 ∧ 1 ≤ A ∧ A ≤ 12 by omega), week_eq]
          simp only [Option.bind_some]
          have hw : 0 ≤ wk (num y A 1) ∧ wk (num y A 1) < 7 := by unfold wk; omega
          rw [wrap_in (C - wk (num y A 1)) (by omega) (by omega), wrap_in (C - wk (num y A 1) + 7) (by omega) (by omega), Int.tmod_eq_emod_of_nonneg (by omega), wrap_in (B - 1) (by omega) (by omega), wrap_in (7 * (B - 1)) (by omega) (by omega), wrap_in (_ + 7 * (B - 1)) (by omega) (by omega)]
          unfold offW
          simp only []
          split
          · rw [wrap_in (_ - 7) (by omega) (by omega), wrap_in _ (by omega) (by omega)]
          · rw [wrap_in _ (by omega) (by omega)]
  · rw [if_neg (show ¬ (1 ≤ y ∧ y ≤ 9999 ∧ (1 : Int) ≤ 1 ∧ (1 : Int) ≤ 12 ∧ (1 : Int) ≤ 1 ∧ (1 : Int) ≤ dim y 1) from fun h => hy ⟨h.1, h.2.1⟩), if_neg (show ¬ ((1 ≤ y ∧ y ≤ 9999) ∧ rightR K A B C X = true) from fun h => hy h.1)]
    simp only [rule_Day.j0, if_true]
    have : decide ((1 ≤ y ∧ y ≤ 9999) ∧ rightR K A B C X = true) = false := by simp only [decide_eq_false_iff_not]; exact fun h => hy h.1
    rw [this]
theorem ruleDay_bd {K A B C X y : Int} (hy : 1 ≤ y ∧ y ≤ 9999) (hr : rightR K A B C X = true) : fst y ≤ ruleDay K A B C y ∧ ruleDay K A B C y ≤ fst y + 365 := by
  have hr' := (right_iff K A B C X).1 hr
  unfold ruleDay
  split
  · omega
  · split
    · split <;> omega
    · have hK : K = 0 ∧ 1 ≤ A ∧ A ≤ 12 ∧ 1 ≤ B ∧ B ≤ 5 ∧ 0 ≤ C ∧ C ≤ 6 := by omega
      obtain ⟨o1, o2, _⟩ := off_bd (A := A) (C := C) (y := y) hK.2.2.2.1 hK.2.2.2.2.1
      have hv : Vld y A (offW A B C y + 1) := ⟨hy.1, hy.2, hK.2.1, hK.2.2.1, by omega, by omega⟩
      have := num_bd hv
      rw [fst_succ] at this
      have e : num y A (offW A B C y + 1) = num y A 1 + offW A B C y := by unfold num; omega
      rw [e] at this
      split at this <;> omega
theorem at_eq (k : Nat) (K A B C X y : Int) (hA : -9223372036854775808 ≤ A ∧ A ≤ 9223372036854775807) : rule_At.f (k + 2) K A B C X y = some (if (1 ≤ y ∧ y ≤ 9999) ∧ rightR K A B C X = true then ruleDay K A B C y * 86400 + X else 0, decide ((1 ≤ y ∧ y ≤ 9999) ∧ rightR K A B C X = true)) := by
  unfold rule_At.f
  rw [day_eq k K A B C X y hA]
  simp only [Option.bind_some, decide_eq_true_eq]
  by_cases h : (1 ≤ y ∧ y ≤ 9999) ∧ rightR K A B C X = true
  · rw [if_pos h, if_pos h, if_pos h]
    have hb := ruleDay_bd h.1 h.2
    have hf := fst_bd h.1.1 h.1.2
    have hfl := fst_le (by omega : y ≤ y + 1)
    have hr' := (right_iff K A B C X).1 h.2
    rw [wrap_in (_ * 86400) (by omega) (by omega), wrap_in _ (by omega) (by omega)]
    have : decide ((1 ≤ y ∧ y ≤ 9999) ∧ rightR K A B C X = true) = true := by simp only [decide_eq_true_eq]; exact h
    rw [this]
  · rw [if_neg h, if_neg h]
    have : decide ((1 ≤ y ∧ y ≤ 9999) ∧ rightR K A B C X = true) = false := by simp only [decide_eq_false_iff_not]; exact h
    rw [this]
end Go.Proofs.YtghjemcbkackjaaDoor.T
