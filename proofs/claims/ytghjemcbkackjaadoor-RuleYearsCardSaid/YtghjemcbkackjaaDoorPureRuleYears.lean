/- RuleYears over numbers alone. -/
import Derived.Test.YtghjemcbkackjaaDoorStRuleYears
import Derived.Test.YtghjemcbkackjaaDoorPRule3
import Derived.OpenShut
namespace Go.Proofs.YtghjemcbkackjaaDoor.Pure
open Go.RowKit Go.Proofs.YtghjemcbkackjaaDoorW.PrintWords Go.Proofs.YtghjemcbkackjaaDoor.F Go.Proofs.YtghjemcbkackjaaDoor.P Go.Proofs.YtghjemcbkackjaaDoor.T Go.Proofs.YtghjemcbkackjaaDoor.Cal
set_option linter.unusedVariables false
set_option linter.unusedSimpArgs false

theorem wf_bdY {x : Int} (h : (Lit.int .i64 x).wf = true) : -9223372036854775808 ≤ x ∧ x ≤ 9223372036854775807 := by
  have := bounds_i64 h; omega
theorem outY (k : Nat) (y z : Int) (A B C D E : Int) : epactlaw17_RuleYears.j0 (k + 1) y z true true A B C D E = some true := by
  simp only [epactlaw17_RuleYears.j0, if_true]
/-- The date of a day that is counted without leap days. -/
theorem julian {A : Int} (h1 : 1 ≤ A) (h2 : A ≤ 365) : ∃ m d, 1 ≤ m ∧ m ≤ 12 ∧ 1 ≤ d ∧ d ≤ dim 1 m ∧ cum0 m + d = A ∧ (2 < m ↔ 59 < A) := by
  have l1 : lp 1 = false := by decide
  have hc : ∀ m, cum 1 m = cum0 m := fun m => by unfold cum; rw [l1]; simp
  by_cases h : A - 1 < cum 1 12
  · obtain ⟨m, a, b, c, e⟩ := month_ex 1 (A - 1) (by omega) 11 (by omega) h
    have hs := cum_succ 1 m a (by omega)
    rw [if_neg (by omega)] at hs
    rw [hc] at c hs
    refine ⟨m, A - cum0 m, a, by omega, by omega, by omega, by omega, ?_⟩
    have hb : m ≤ 11 := by omega
    rw [← hs] at e
    rcases month_cases a (by omega) with rfl | rfl | rfl | rfl | rfl | rfl | rfl | rfl | rfl | rfl | rfl | rfl <;> simp [cum0, dim, l1] at c e ⊢ <;> omega
  · have hs := cum_succ 1 12 (by omega) (by omega)
    rw [if_pos rfl, l1] at hs
    rw [hc] at hs h
    simp at hs
    refine ⟨12, A - cum0 12, by omega, by omega, by omega, by omega, by omega, ?_⟩
    simp [cum0] at h ⊢; omega
theorem julian_day {y A B C : Int} (hy : 1 ≤ y ∧ y ≤ 9999) {m d : Int} (h1 : 1 ≤ m) (h2 : m ≤ 12) (h3 : 1 ≤ d) (h4 : d ≤ dim 1 m) (h5 : cum0 m + d = A) (h6 : 2 < m ↔ 59 < A) :
    ruleDay 1 A B C y = num y m d ∧ Vld y m d ∧ (m = 2 → d ≤ 28) := by
  have l1 : lp 1 = false := by decide
  have hdm : dim 1 m ≤ dim y m ∧ (m = 2 → dim 1 m = 28) := by
    by_cases e : m = 2
    · subst e
      have h28 : dim 1 2 = 28 := by decide
      have := dim_bd y 2
      exact ⟨by omega, fun _ => h28⟩
    · have : dim 1 m = dim y m := by unfold dim; rw [if_neg e, if_neg e]
      exact ⟨by omega, fun h => absurd h e⟩
  refine ⟨?_, ⟨hy.1, hy.2, h1, h2, h3, by omega⟩, fun e => by have := hdm.2 e; omega⟩
  unfold ruleDay num cum
  rw [if_neg (by omega), if_pos rfl]
  cases hl : lp y with
  | false => rw [if_pos (.inr rfl), if_neg (by simp)]; omega
  | true =>
    by_cases h : A ≤ 59
    · rw [if_pos (.inl h), if_neg (by rintro ⟨a, _⟩; have := h6.1 a; omega)]; omega
    · rw [if_neg (by simp; omega), if_pos ⟨h6.2 (by omega), rfl⟩]; omega
theorem year_in {y n : Int} (hy : 1 ≤ y ∧ y ≤ 9999) (h0 : fst y ≤ n) (h1 : n < fst (y + 1)) : yearP n = y := by
  have hf := fst_bd hy.1 hy.2
  obtain ⟨hv, e⟩ := num_date (n := n) (by omega) (by omega)
  have hb := num_bd hv
  rw [e] at hb
  have a1 : ¬ yearP n < y := fun h => by have := fst_le (by omega : yearP n + 1 ≤ y); omega
  have a2 : ¬ y < yearP n := fun h => by have := fst_le (by omega : y + 1 ≤ yearP n); omega
  omega
theorem RuleYears : epactlaw17_RuleYears.PureG := by
  intro K A B C X y z hK hA hB hC hX hy hz
  have hA' := wf_bdY hA
  refine ⟨5, ?_⟩
  unfold epactlaw17_RuleYears.f epactlaw17_smallF.f
  simp only [Option.bind_some]
  rw [right_eq]
  simp only [Option.bind_some]
  by_cases hr : rightR K A B C X = true
  · rw [if_pos hr]
    by_cases h0 : K = 0
    · rw [if_pos h0, outY]
    rw [if_neg h0]
    by_cases h1 : y < 1
    · rw [if_pos h1, outY]
    rw [if_neg h1]
    by_cases h2 : y > 9998
    · rw [if_pos h2, outY]
    rw [if_neg h2]
    by_cases h3 : z < 1
    · rw [if_pos h3, outY]
    rw [if_neg h3]
    by_cases h4 : z > 9998
    · rw [show decide (z > 9998) = true by simpa using h4, outY]
    rw [show decide (z > 9998) = false by simpa using h4]
    have hyy : 1 ≤ y ∧ y ≤ 9999 := by omega
    have hzz : 1 ≤ z ∧ z ≤ 9999 := by omega
    have hr' := (right_iff K A B C X).1 hr
    have by_ := ruleDay_bd hyy hr
    have bz := ruleDay_bd hzz hr
    have fy := fst_bd hyy.1 hyy.2
    have fz := fst_bd hzz.1 hzz.2
    have fy2 := fst_bd (y := y + 1) (by omega) (by omega)
    have fz2 := fst_bd (y := z + 1) (by omega) (by omega)
    have sy1 := fst_succ y
    have sz1 := fst_succ z
    have sy2 := fst_succ (y + 1)
    have sz2 := fst_succ (z + 1)
    have hby : -719162 ≤ ruleDay K A B C y ∧ ruleDay K A B C y ≤ 2932896 := by split at sy1 <;> split at sy2 <;> omega
    have hbz : -719162 ≤ ruleDay K A B C z ∧ ruleDay K A B C z ≤ 2932896 := by split at sz1 <;> split at sz2 <;> omega
    simp only [epactlaw17_RuleYears.j0, Bool.false_eq_true, if_false]
    rw [day_eq 2 K A B C X y hA', day_eq 2 K A B C X z hA', at_eq 2 K A B C X y hA', number_eq 3]
    simp only [Option.bind_some]
    rw [if_pos (And.intro hyy hr), if_pos (And.intro hyy hr), if_pos (And.intro hzz hr), show decide ((1 ≤ y ∧ y ≤ 9999) ∧ rightR K A B C X = true) = true by simp only [decide_eq_true_eq]; exact ⟨hyy, hr⟩, show decide ((1 ≤ z ∧ z ≤ 9999) ∧ rightR K A B C X = true) = true by simp only [decide_eq_true_eq]; exact ⟨hzz, hr⟩]
    rw [date_eq, date_eq, if_pos hby, if_pos hbz]
    simp only [Option.bind_some, if_true]
    rw [if_pos (show 1 ≤ y ∧ y ≤ 9999 ∧ (1 : Int) ≤ 1 ∧ (1 : Int) ≤ 12 ∧ (1 : Int) ≤ 1 ∧ (1 : Int) ≤ dim y 1 from ⟨hyy.1, hyy.2, by omega, by omega, by omega, by rw [dim_jan]; omega⟩), num_first]
    have hs : (ruleDay K A B C y * 86400 + X != wrap64 (wrap64 (86400 * ruleDay K A B C y) + X)) = false := by
      rw [wrap_in (86400 * _) (by omega) (by omega), wrap_in _ (by omega) (by omega)]
      simp; omega
    rw [hs]
    simp only [epactlaw17_RuleYears.j1, Bool.false_eq_true, if_false, if_true]
    by_cases hK1 : K = 1
    · rw [if_pos hK1]
      subst hK1
      obtain ⟨m, d, m1, m2, m3, m4, m5, m6⟩ := julian (A := A) (by omega) (by omega)
      obtain ⟨e1, v1, f1⟩ := julian_day (y := y) (A := A) (B := B) (C := C) hyy m1 m2 m3 m4 m5 m6
      obtain ⟨e2, v2, f2⟩ := julian_day (y := z) (A := A) (B := B) (C := C) hzz m1 m2 m3 m4 m5 m6
      have d1 := date_num v1
      have d2 := date_num v2
      rw [e1, e2, d1.1, d1.2.1, d1.2.2, d2.1, d2.2.1, d2.2.2, if_pos rfl, if_pos rfl, if_pos rfl, if_pos rfl]
      by_cases h22 : m = 2
      · rw [if_pos h22]
        have := f1 h22
        refine congrArg some ?_
        simp; omega
      · rw [if_neg h22]
    · rw [if_neg hK1]
      have hK2 : K = 2 := by omega
      have e : ruleDay K A B C y = fst y + A := by unfold ruleDay; rw [if_pos hK2]
      rw [e] at hby ⊢
      rw [wrap_in (fst y + A) (by omega) (by omega), if_pos rfl]
      by_cases hin : fst y + A < fst (y + 1)
      · rw [if_pos (year_in hyy (by omega) hin)]
      · have hA365 : fst y + A = fst (y + 1) := by split at sy1 <;> omega
        have hv : Vld (y + 1) 1 1 := ⟨by omega, by omega, by omega, by omega, by omega, by rw [dim_jan]; omega⟩
        have dn := date_num hv
        rw [num_first] at dn
        rw [hA365, dn.1, dn.2.1, dn.2.2, wrap_in (y + 1) (by omega) (by omega), if_neg (by omega), if_pos rfl, if_pos rfl]
        rfl
  · rw [if_neg hr, outY]
end Go.Proofs.YtghjemcbkackjaaDoor.Pure
