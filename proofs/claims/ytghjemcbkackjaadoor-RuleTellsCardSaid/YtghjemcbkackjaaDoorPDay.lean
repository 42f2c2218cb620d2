/- What the printed functions of the days compute. -/
import Derived.Test.YtghjemcbkackjaaDoorPS
import Derived.Test.YtghjemcbkackjaaDoorCal
import Derived.Test.YtghjemcbkackjaaDoorPx8
import Derived.Test.YtghjemcbkackjaaDoorPx7
namespace Go.Proofs.YtghjemcbkackjaaDoor.T
open Go.RowKit Go.Proofs.YtghjemcbkackjaaDoorW.PrintWords Go.Proofs.YtghjemcbkackjaaDoor.F Go.Proofs.YtghjemcbkackjaaDoor.P Go.Proofs.YtghjemcbkackjaaDoor.Cal
set_option linter.unusedVariables false
set_option linter.unusedSimpArgs false

theorem tmod_lp (y : Int) : (Int.tmod y 4 = 0 ↔ y % 4 = 0) ∧ (Int.tmod y 100 = 0 ↔ y % 100 = 0) ∧ (Int.tmod y 400 = 0 ↔ y % 400 = 0) := by
  refine ⟨?_, ?_, ?_⟩ <;> (constructor <;> intro h)
  all_goals first
    | exact Int.emod_eq_zero_of_dvd (Int.dvd_of_tmod_eq_zero h)
    | exact Int.tmod_eq_zero_of_dvd (Int.dvd_of_emod_eq_zero h)
theorem leap_eq (y : Int) : day_Leap.f y = some (lp y) := by
  obtain ⟨e1, e2, e3⟩ := tmod_lp y
  unfold day_Leap.f lp
  by_cases a : y % 4 = 0
  · rw [if_pos (e1.2 a)]
    by_cases b : y % 100 = 0
    · rw [if_pos (e2.2 b)]
      by_cases c : y % 400 = 0
      · rw [e3.2 c]; simp [a, b, c]
      · have : ¬ Int.tmod y 400 = 0 := fun h => c (e3.1 h)
        simp [a, b, c, this]
    · rw [if_neg (fun h => b (e2.1 h))]; simp [a, b]
  · rw [if_neg (fun h => a (e1.1 h))]; simp [a]
theorem leapF_eq (y : Int) : leapF y = lp y := rfl
theorem last_eq (y m : Int) : day_Last.f y m = some (if 1 ≤ y ∧ y ≤ 9999 ∧ 1 ≤ m ∧ m ≤ 12 then dim y m else 0, decide (1 ≤ y ∧ y ≤ 9999 ∧ 1 ≤ m ∧ m ≤ 12)) := by
  unfold day_Last.f
  by_cases h1 : y < 1
  · rw [if_pos h1, if_neg (by omega)]; simp; omega
  rw [if_neg h1]
  by_cases h2 : 9999 < y
  · rw [if_pos h2, if_neg (by omega)]; simp; omega
  rw [if_neg h2]
  by_cases h3 : m < 1
  · rw [if_pos h3, if_neg (by omega)]; simp; omega
  rw [if_neg h3]
  by_cases h4 : 12 < m
  · rw [if_pos h4, if_neg (by omega)]; simp; omega
  rw [if_neg h4, if_pos (show 1 ≤ y ∧ y ≤ 9999 ∧ 1 ≤ m ∧ m ≤ 12 by omega)]
  have : (decide (1 ≤ y ∧ y ≤ 9999 ∧ 1 ≤ m ∧ m ≤ 12)) = true := by simp; omega
  rw [this, leapF_eq]
  unfold dim monthF
  by_cases e : m = 2
  · rw [if_pos e, if_pos e]
  · rw [if_neg e, if_neg e, if_neg e]
theorem div_eq (a b : Int) (h0 : -9223372036854775807 ≤ a) (h1 : a ≤ 9223372036854775807) (hb : 1 ≤ b) (hb' : b ≤ 9223372036854775807) : num_Div.f a b = some (a / b, a % b, true) := by
  unfold num_Div.f
  have hm := Int.emod_nonneg a (by omega : b ≠ 0)
  have hm2 := Int.emod_lt_of_pos a (by omega : 0 < b)
  have hdm := Int.mul_ediv_add_emod a b
  have hq1 : -9223372036854775807 ≤ a / b := by
    have : a ≤ a / b ∨ 0 ≤ a / b := by
      by_cases hn : 0 ≤ a
      · exact .inr (Int.ediv_nonneg hn (by omega))
      · refine .inl (Int.le_ediv_of_mul_le (by omega) ?_)
        have : (b - 1) * a ≤ 0 := Int.mul_nonpos_of_nonneg_of_nonpos (by omega) (by omega)
        rw [Int.sub_mul, Int.mul_comm b a] at this
        omega
    omega
  have hq2 : a / b ≤ 9223372036854775807 := by
    have := Int.ediv_le_self (a := a) b
    by_cases hn : 0 ≤ a
    · have := this hn; omega
    · have := Int.ediv_neg_of_neg_of_pos (by omega : a < 0) (by omega : 0 < b); omega
  rw [if_neg (by omega), if_neg (by omega)]
  by_cases hn : 0 ≤ a
  · rw [Int.tmod_eq_emod_of_nonneg hn, Int.tdiv_eq_ediv_of_nonneg hn, if_neg (by omega), wrap_in _ (by omega) hq2]
  · by_cases hz : a % b = 0
    · have hd : b ∣ a := Int.dvd_of_emod_eq_zero hz
      have e1 : Int.tmod a b = 0 := Int.tmod_eq_zero_of_dvd hd
      have e2 : Int.tdiv a b = a / b := by
        obtain ⟨c, rfl⟩ := hd
        rw [Int.mul_tdiv_cancel_left _ (by omega), Int.mul_ediv_cancel_left _ (by omega)]
      rw [e1, if_neg (by omega), e2, wrap_in _ (by omega) hq2, hz]
    · have e1 : Int.tmod a b = a % b - b := by
        rw [Int.tmod_eq_emod]
        have : ¬ (0 ≤ a ∨ b ∣ a) := by
          rintro (h | h)
          · exact hn h
          · exact hz (Int.emod_eq_zero_of_dvd h)
        rw [if_neg this]
        have : (b.natAbs : Int) = b := by omega
        omega
      have e2 : Int.tdiv a b = a / b + 1 := by
        have := Int.mul_tdiv_add_tmod a b
        rw [e1] at this
        have h2 : b * (Int.tdiv a b) = b * (a / b + 1) := by rw [Int.mul_add]; omega
        exact Int.eq_of_mul_eq_mul_left (by omega) h2
      have hlt : a / b < 0 := Int.ediv_neg_of_neg_of_pos (by omega) (by omega)
      rw [e1, if_pos (by omega), e2, wrap_in (a / b + 1) (by omega) (by omega), wrap_in _ (by omega) (by omega), wrap_in _ (by omega) (by omega)]
      simp only [Option.some.injEq, Prod.mk.injEq, and_true]
      omega
theorem week_eq (n : Int) : day_Week.f n = some (wk n) := by
  unfold day_Week.f
  have h1 : -7 < Int.tmod n 7 ∧ Int.tmod n 7 < 7 := ⟨Int.lt_tmod_of_pos n (by omega), Int.tmod_lt_of_pos n (by omega)⟩
  rw [wrap_in _ (by omega) (by omega), div_eq _ 7 (by omega) (by omega) (by omega) (by omega)]
  simp only [Option.bind_some, Option.some.injEq]
  have h2 := Int.tmod_eq_emod (a := n) (b := 7)
  unfold wk
  split at h2 <;> omega
theorem number_eq (k : Nat) (y m d : Int) : day_Number.f (k + 1) y m d = some (if 1 ≤ y ∧ y ≤ 9999 ∧ 1 ≤ m ∧ m ≤ 12 ∧ 1 ≤ d ∧ d ≤ dim y m then num y m d else 0, decide (1 ≤ y ∧ y ≤ 9999 ∧ 1 ≤ m ∧ m ≤ 12 ∧ 1 ≤ d ∧ d ≤ dim y m)) := by
  unfold day_Number.f
  rw [last_eq]
  simp only [Option.bind_some, decide_eq_true_eq]
  by_cases h : 1 ≤ y ∧ y ≤ 9999 ∧ 1 ≤ m ∧ m ≤ 12
  · rw [if_pos h, if_pos h]
    have hd := dim_bd y m
    by_cases h1 : d < 1
    · rw [if_pos h1, if_neg (by omega)]
      simp only [day_Number.j0, if_true]
      simp; omega
    · rw [if_neg h1]
      by_cases h2 : d > dim y m
      · rw [if_neg (by omega)]
        have : decide (d > dim y m) = true := by simpa using h2
        rw [this]
        simp only [day_Number.j0, if_true]
        simp; omega
      · rw [if_pos (by omega)]
        have : decide (d > dim y m) = false := by simpa using h2
        rw [this]
        have hdec : decide (1 ≤ y ∧ y ≤ 9999 ∧ 1 ≤ m ∧ m ≤ 12 ∧ 1 ≤ d ∧ d ≤ dim y m) = true := by simp; omega
        rw [hdec, ← numP_eq h.2.2.1 h.2.2.2]
        simp only [day_Number.j0, Bool.false_eq_true, if_false]
        unfold numP sy sm
        by_cases hm : m < 3
        · rw [if_pos hm, if_pos hm, if_pos hm, wrap_in (y - 1) (by omega) (by omega), div_eq _ 400 (by omega) (by omega) (by omega) (by omega)]
          simp only [Option.bind_some, Option.some.injEq, Prod.mk.injEq, and_true]
          have b1 : 0 ≤ (y - 1) / 400 ∧ (y - 1) / 400 ≤ 25 := by omega
          have b2 : 0 ≤ (y - 1) % 400 ∧ (y - 1) % 400 < 400 := by omega
          rw [Int.tdiv_eq_ediv_of_nonneg b2.1, Int.tdiv_eq_ediv_of_nonneg b2.1]
          generalize (y - 1) / 400 = q at *
          generalize (y - 1) % 400 = b at *
          rw [wrap_in (m + 12) (by omega) (by omega), wrap_in (m + 12 - 3) (by omega) (by omega), wrap_in (153 * _) (by omega) (by omega), wrap_in (153 * _ + 2) (by omega) (by omega), Int.tdiv_eq_ediv_of_nonneg (by omega)]
          rw [wrap_in (_ / 5) (by omega) (by omega), wrap_in (_ / 5 + d) (by omega) (by omega), wrap_in (_ / 5 + d - 1) (by omega) (by omega), wrap_in (146097 * q) (by omega) (by omega), wrap_in (365 * b) (by omega) (by omega), wrap_in (b / 4) (by omega) (by omega), wrap_in (b / 100) (by omega) (by omega), wrap_in (146097 * q + 365 * b) (by omega) (by omega), wrap_in (_ + b / 4) (by omega) (by omega), wrap_in (_ - b / 100) (by omega) (by omega), wrap_in (_ + _) (by omega) (by omega), wrap_in _ (by omega) (by omega)]
        · rw [if_neg hm, if_neg hm, if_neg hm, div_eq _ 400 (by omega) (by omega) (by omega) (by omega)]
          simp only [Option.bind_some, Option.some.injEq, Prod.mk.injEq, and_true]
          have b1 : 0 ≤ y / 400 ∧ y / 400 ≤ 25 := by omega
          have b2 : 0 ≤ y % 400 ∧ y % 400 < 400 := by omega
          rw [Int.tdiv_eq_ediv_of_nonneg b2.1, Int.tdiv_eq_ediv_of_nonneg b2.1]
          generalize y / 400 = q at *
          generalize y % 400 = b at *
          rw [wrap_in (m - 3) (by omega) (by omega), wrap_in (153 * _) (by omega) (by omega), wrap_in (153 * _ + 2) (by omega) (by omega), Int.tdiv_eq_ediv_of_nonneg (by omega)]
          rw [wrap_in (_ / 5) (by omega) (by omega), wrap_in (_ / 5 + d) (by omega) (by omega), wrap_in (_ / 5 + d - 1) (by omega) (by omega), wrap_in (146097 * q) (by omega) (by omega), wrap_in (365 * b) (by omega) (by omega), wrap_in (b / 4) (by omega) (by omega), wrap_in (b / 100) (by omega) (by omega), wrap_in (146097 * q + 365 * b) (by omega) (by omega), wrap_in (_ + b / 4) (by omega) (by omega), wrap_in (_ - b / 100) (by omega) (by omega), wrap_in (_ + _) (by omega) (by omega), wrap_in _ (by omega) (by omega)]
  · rw [if_neg h, if_neg (by omega)]
    simp only [day_Number.j0, if_true]
    simp; omega

end Go.Proofs.YtghjemcbkackjaaDoor.T
