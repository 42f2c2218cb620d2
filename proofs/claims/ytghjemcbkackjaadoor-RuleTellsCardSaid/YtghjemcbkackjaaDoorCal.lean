/- The calendar, in plain whole numbers. -/
namespace Go.Proofs.YtghjemcbkackjaaDoor.Cal
set_option linter.unusedVariables false
set_option linter.unusedSimpArgs false

/-- A leap year. -/
def lp (y : Int) : Bool := decide (y % 4 = 0 ∧ (y % 100 ≠ 0 ∨ y % 400 = 0))
/-- The number of a year's first day. -/
def fst (y : Int) : Int := 365 * (y - 1) + (y - 1) / 4 - (y - 1) / 100 + (y - 1) / 400 - 719162
/-- How many days of a common year lie ahead of a month. -/
def cum0 (m : Int) : Int := if m = 1 then 0 else if m = 2 then 31 else if m = 3 then 59 else if m = 4 then 90 else if m = 5 then 120 else if m = 6 then 151 else if m = 7 then 181 else if m = 8 then 212 else if m = 9 then 243 else if m = 10 then 273 else if m = 11 then 304 else if m = 12 then 334 else 365
def cum (y m : Int) : Int := cum0 m + if 2 < m ∧ lp y = true then 1 else 0
def dim (y m : Int) : Int := if m = 2 then (if lp y = true then 29 else 28) else if m = 4 then 30 else if m = 6 then 30 else if m = 9 then 30 else if m = 11 then 30 else 31
/-- The number of a date. -/
def num (y m d : Int) : Int := fst y + cum y m + d - 1
/-- A date. -/
def Vld (y m d : Int) : Prop := 1 ≤ y ∧ y ≤ 9999 ∧ 1 ≤ m ∧ m ≤ 12 ∧ 1 ≤ d ∧ d ≤ dim y m

theorem lp_iff (y : Int) : lp y = true ↔ (y % 4 = 0 ∧ (y % 100 ≠ 0 ∨ y % 400 = 0)) := by unfold lp; exact decide_eq_true_iff
theorem month_cases {m : Int} (h1 : 1 ≤ m) (h2 : m ≤ 12) : m = 1 ∨ m = 2 ∨ m = 3 ∨ m = 4 ∨ m = 5 ∨ m = 6 ∨ m = 7 ∨ m = 8 ∨ m = 9 ∨ m = 10 ∨ m = 11 ∨ m = 12 := by omega
theorem dim_bd (y m : Int) : 28 ≤ dim y m ∧ dim y m ≤ 31 := by unfold dim; repeat' split <;> omega
theorem fst_succ (y : Int) : fst (y + 1) = fst y + 365 + if lp y = true then 1 else 0 := by
  have := lp_iff y
  unfold fst
  by_cases h : lp y = true
  · rw [if_pos h]; have := this.1 h; omega
  · rw [if_neg h]
    have h' : ¬ (y % 4 = 0 ∧ (y % 100 ≠ 0 ∨ y % 400 = 0)) := fun z => h (this.2 z)
    omega
theorem cum_succ (y m : Int) (h1 : 1 ≤ m) (h2 : m ≤ 12) : cum y m + dim y m = if m = 12 then 365 + (if lp y = true then 1 else 0) else cum y (m + 1) := by
  rcases month_cases h1 h2 with rfl | rfl | rfl | rfl | rfl | rfl | rfl | rfl | rfl | rfl | rfl | rfl <;>
    cases hl : lp y <;> simp [cum, cum0, dim, hl]
theorem num_bd {y m d : Int} (h : Vld y m d) : fst y ≤ num y m d ∧ num y m d < fst (y + 1) := by
  obtain ⟨_, _, h1, h2, h3, h4⟩ := h
  rw [fst_succ]
  unfold num
  rcases month_cases h1 h2 with rfl | rfl | rfl | rfl | rfl | rfl | rfl | rfl | rfl | rfl | rfl | rfl <;>
    cases hl : lp y <;> simp [cum, cum0, dim, hl] at h4 ⊢ <;> omega
theorem fst_bd {y : Int} (h1 : 1 ≤ y) (h2 : y ≤ 9999) : -719162 ≤ fst y ∧ fst (y + 1) ≤ 2932897 := by unfold fst; omega
theorem fst_le {y z : Int} (h : y ≤ z) : fst y ≤ fst z := by unfold fst; omega
theorem num_range {y m d : Int} (h : Vld y m d) : -719162 ≤ num y m d ∧ num y m d ≤ 2932896 := by
  have := num_bd h
  have := fst_bd h.1 h.2.1
  omega

/-! ### Years that begin with March -/
/-- A date's year and month, so counted. -/
def sy (y m : Int) : Int := if m < 3 then y - 1 else y
def sm (m : Int) : Int := if m < 3 then m + 12 else m
/-- The program's own formula. -/
def numP (y m d : Int) : Int := 146097 * (sy y m / 400) + 365 * (sy y m % 400) + (sy y m % 400) / 4 - (sy y m % 400) / 100 + ((153 * (sm m - 3) + 2) / 5 + d - 1) - 719468
theorem numP_eq {y m d : Int} (h1 : 1 ≤ m) (h2 : m ≤ 12) : numP y m d = num y m d := by
  have hl := lp_iff y
  have key : ∀ b : Bool, lp y = b → numP y m d = num y m d := by
    intro b hb
    cases b with
    | true =>
      have hl' := hl.1 hb
      rcases month_cases h1 h2 with rfl | rfl | rfl | rfl | rfl | rfl | rfl | rfl | rfl | rfl | rfl | rfl <;>
        simp [numP, num, fst, cum, cum0, sy, sm, hb] <;> omega
    | false =>
      have hl' : ¬ (y % 4 = 0 ∧ (y % 100 ≠ 0 ∨ y % 400 = 0)) := fun z => by rw [hl.2 z] at hb; cases hb
      rcases month_cases h1 h2 with rfl | rfl | rfl | rfl | rfl | rfl | rfl | rfl | rfl | rfl | rfl | rfl <;>
        simp [numP, num, fst, cum, cum0, sy, sm, hb] <;> omega
  exact key _ rfl

/-- The first day of March-year b of an era. -/
def st (b : Int) : Int := 365 * b + b / 4 - b / 100
def gy (o : Int) : Int := o - o / 1460 + o / 36524 - o / 146096
theorem gy_mono {a b : Int} (h0 : 0 ≤ a) (h : a ≤ b) (hb : b ≤ 146096) : gy a ≤ gy b := by unfold gy; omega
theorem ends : ∀ n : Nat, n < 400 → (gy (st n) / 365 = n ∧ gy (st (n + 1) - (if n = 399 then 0 else 1)) / 365 = n) := by decide +kernel
theorem st_400 : st 399 + 365 = 146096 := by decide
/-- The year of a day of an era. -/
theorem year_of {o b : Int} (h0 : 0 ≤ b) (h1 : b < 400) (h2 : st b ≤ o) (h3 : o < st (b + 1) ∨ (b = 399 ∧ o ≤ 146096)) : gy o / 365 = b := by
  obtain ⟨n, rfl⟩ := Int.eq_ofNat_of_zero_le h0
  obtain ⟨e1, e2⟩ := ends n (by omega)
  have hs0 : 0 ≤ st n := by unfold st; omega
  have hs1 : st (n + 1) ≤ 146097 := by unfold st; omega
  by_cases hn : n = 399
  · subst hn
    have hm : st ((399 : Nat) + 1) = 146096 := by decide
    rw [if_pos rfl, hm] at e2
    have ho : o ≤ 146096 := by
      rcases h3 with h3 | h3
      · have : ((399 : Nat) : Int) + 1 = 400 := rfl
        rw [this] at h3; have : st 400 = 146096 := by decide
        omega
      · exact h3.2
    have g1 := gy_mono hs0 h2 ho
    have g2 := gy_mono (by omega : 0 ≤ o) ho (Int.le_refl _)
    simp only [Int.sub_zero] at e2
    omega
  · rw [if_neg hn] at e2
    have ho : o ≤ st (n + 1) - 1 := by
      rcases h3 with h3 | h3
      · omega
      · omega
    have g1 := gy_mono hs0 h2 (by omega)
    have g2 := gy_mono (by omega : 0 ≤ o) ho (by omega)
    omega

/-- The program's own date of a number. -/
def era (n : Int) : Int := (n + 719468) / 146097
def ofE (n : Int) : Int := (n + 719468) % 146097
def yrs (n : Int) : Int := gy (ofE n) / 365
def doy (n : Int) : Int := ofE n - st (yrs n)
def mon (n : Int) : Int := (5 * doy n + 2) / 153
def dayP (n : Int) : Int := doy n - (153 * mon n + 2) / 5 + 1
def monP (n : Int) : Int := if mon n + 3 > 12 then mon n + 3 - 12 else mon n + 3
def yearP (n : Int) : Int := 400 * era n + (if mon n + 3 > 12 then yrs n + 1 else yrs n)

theorem date_num' {y m d : Int} (h : Vld y m d) : (0 ≤ doy (num y m d) ∧ doy (num y m d) ≤ 365) ∧ yearP (num y m d) = y ∧ monP (num y m d) = m ∧ dayP (num y m d) = d := by
  obtain ⟨a1, a2, h1, h2, h3, h4⟩ := h
  have hl := lp_iff y
  rw [← numP_eq h1 h2]
  have hb : 0 ≤ sy y m % 400 ∧ sy y m % 400 < 400 := by omega
  have hdoy : 0 ≤ (153 * (sm m - 3) + 2) / 5 + d - 1 ∧ st (sy y m % 400) + ((153 * (sm m - 3) + 2) / 5 + d - 1) ≤ 146096 ∧
      (st (sy y m % 400) + ((153 * (sm m - 3) + 2) / 5 + d - 1) < st (sy y m % 400 + 1) ∨ sy y m % 400 = 399) := by
    unfold st
    cases hb' : lp y with
    | true =>
      have hl' := hl.1 hb'
      rcases month_cases h1 h2 with rfl | rfl | rfl | rfl | rfl | rfl | rfl | rfl | rfl | rfl | rfl | rfl <;>
        simp [sy, sm, dim, hb'] at h4 ⊢ <;> omega
    | false =>
      have hl' : ¬ (y % 4 = 0 ∧ (y % 100 ≠ 0 ∨ y % 400 = 0)) := fun z => by rw [hl.2 z] at hb'; cases hb'
      rcases month_cases h1 h2 with rfl | rfl | rfl | rfl | rfl | rfl | rfl | rfl | rfl | rfl | rfl | rfl <;>
        simp [sy, sm, dim, hb'] at h4 ⊢ <;> omega
  have hst0 : 0 ≤ st (sy y m % 400) := by unfold st; omega
  have hN : numP y m d + 719468 = 146097 * (sy y m / 400) + (st (sy y m % 400) + ((153 * (sm m - 3) + 2) / 5 + d - 1)) := by unfold numP st; omega
  have hera : era (numP y m d) = sy y m / 400 := by unfold era; omega
  have hof : ofE (numP y m d) = st (sy y m % 400) + ((153 * (sm m - 3) + 2) / 5 + d - 1) := by unfold ofE; omega
  have hyrs : yrs (numP y m d) = sy y m % 400 := by
    unfold yrs
    rw [hof]
    refine year_of hb.1 hb.2 (by omega) ?_
    rcases hdoy.2.2 with h | h
    · exact .inl h
    · exact .inr ⟨h, hdoy.2.1⟩
  have hdy : doy (numP y m d) = (153 * (sm m - 3) + 2) / 5 + d - 1 := by unfold doy; rw [hof, hyrs]; omega
  have hdd := dim_bd y m
  have hmon : mon (numP y m d) = sm m - 3 := by
    unfold mon
    rw [hdy]
    rcases month_cases h1 h2 with rfl | rfl | rfl | rfl | rfl | rfl | rfl | rfl | rfl | rfl | rfl | rfl <;>
      simp [sm, dim] at h4 ⊢ <;> omega
  refine ⟨?_, ?_, ?_, ?_⟩
  · rw [hdy]
    rcases month_cases h1 h2 with rfl | rfl | rfl | rfl | rfl | rfl | rfl | rfl | rfl | rfl | rfl | rfl <;>
      simp [sm, dim] at h4 ⊢ <;> omega
  · unfold yearP
    rw [hera, hyrs, hmon]
    rcases month_cases h1 h2 with rfl | rfl | rfl | rfl | rfl | rfl | rfl | rfl | rfl | rfl | rfl | rfl <;>
      simp [sm, sy] <;> omega
  · unfold monP
    rw [hmon]
    rcases month_cases h1 h2 with rfl | rfl | rfl | rfl | rfl | rfl | rfl | rfl | rfl | rfl | rfl | rfl <;> simp [sm]
  · unfold dayP
    rw [hdy, hmon]
    omega
theorem date_num {y m d : Int} (h : Vld y m d) : yearP (num y m d) = y ∧ monP (num y m d) = m ∧ dayP (num y m d) = d := (date_num' h).2

/-! ### Each number is a date's -/
theorem year_ex (n : Int) (h0 : fst 1 ≤ n) : ∀ k : Nat, n < fst (1 + k) → ∃ y : Int, 1 ≤ y ∧ y ≤ k ∧ fst y ≤ n ∧ n < fst (y + 1)
  | 0, h => by simp at h; omega
  | k + 1, h => by
    by_cases h1 : n < fst (1 + k)
    · obtain ⟨y, a, b, c, d⟩ := year_ex n h0 k h1
      exact ⟨y, a, by omega, c, d⟩
    · exact ⟨1 + k, by omega, by omega, by omega, by have e : ((k + 1 : Nat) : Int) = (k : Int) + 1 := rfl; rw [e] at h; rw [Int.add_assoc]; exact h⟩
theorem cum_mono (y m : Int) (h1 : 1 ≤ m) (h2 : m < 12) : cum y m + 28 ≤ cum y (m + 1) := by
  have := cum_succ y m h1 (by omega)
  rw [if_neg (by omega)] at this
  have := dim_bd y m
  omega
theorem month_ex (y r : Int) (h0 : 0 ≤ r) : ∀ k : Nat, k < 12 → r < cum y (1 + k) → ∃ m : Int, 1 ≤ m ∧ m ≤ k ∧ cum y m ≤ r ∧ r < cum y (m + 1)
  | 0, _, h => by simp [cum, cum0] at h; omega
  | k + 1, hk, h => by
    by_cases h1 : r < cum y (1 + k)
    · obtain ⟨m, a, b, c, d⟩ := month_ex y r h0 k (by omega) h1
      exact ⟨m, a, by omega, c, d⟩
    · exact ⟨1 + k, by omega, by omega, by omega, by have e : ((k + 1 : Nat) : Int) = (k : Int) + 1 := rfl; rw [e] at h; rw [Int.add_assoc]; exact h⟩
theorem date_ex {n : Int} (h0 : -719162 ≤ n) (h1 : n ≤ 2932896) : ∃ y m d, Vld y m d ∧ num y m d = n := by
  obtain ⟨y, a, b, c, e⟩ := year_ex n (by have : fst 1 = -719162 := by decide
                                          omega) 9999 (by have : fst (1 + (9999 : Nat)) = 2932897 := by decide
                                                          omega)
  rw [fst_succ] at e
  by_cases h : n - fst y < cum y 12
  · obtain ⟨m, a', b', c', e'⟩ := month_ex y (n - fst y) (by omega) 11 (by omega) h
    have hs := cum_succ y m a' (by omega)
    rw [if_neg (by omega)] at hs
    exact ⟨y, m, n - fst y - cum y m + 1, ⟨a, by omega, a', by omega, by omega, by omega⟩, by unfold num; omega⟩
  · have hs := cum_succ y 12 (by omega) (by omega)
    rw [if_pos rfl] at hs
    exact ⟨y, 12, n - fst y - cum y 12 + 1, ⟨a, by omega, by omega, by omega, by omega, by omega⟩, by unfold num; omega⟩
theorem num_date {n : Int} (h0 : -719162 ≤ n) (h1 : n ≤ 2932896) : Vld (yearP n) (monP n) (dayP n) ∧ num (yearP n) (monP n) (dayP n) = n := by
  obtain ⟨y, m, d, hv, rfl⟩ := date_ex h0 h1
  obtain ⟨e1, e2, e3⟩ := date_num hv
  rw [e1, e2, e3]
  exact ⟨hv, rfl⟩
theorem doy_bd {n : Int} (h0 : -719162 ≤ n) (h1 : n ≤ 2932896) : 0 ≤ doy n ∧ doy n ≤ 365 := by
  obtain ⟨y, m, d, hv, rfl⟩ := date_ex h0 h1
  exact (date_num' hv).1
theorem num_inj {y m d y' m' d' : Int} (h : Vld y m d) (h' : Vld y' m' d') (e : num y m d = num y' m' d') : y = y' ∧ m = m' ∧ d = d' := by
  have a := date_num h
  have b := date_num h'
  rw [e] at a
  exact ⟨a.1.symm.trans b.1, a.2.1.symm.trans b.2.1, a.2.2.symm.trans b.2.2⟩
/-- A day's place in the week, from Sunday on. -/
def wk (n : Int) : Int := (n + 4) % 7
end Go.Proofs.YtghjemcbkackjaaDoor.Cal
