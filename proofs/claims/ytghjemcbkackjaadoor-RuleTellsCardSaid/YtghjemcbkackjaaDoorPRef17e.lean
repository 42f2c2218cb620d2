/- The document's own answer for rules: days and seconds of years are the program's. -/
import Derived.Test.YtghjemcbkackjaaDoorPRef17d
import Derived.Test.YtghjemcbkackjaaDoorPx18
import Derived.Test.YtghjemcbkackjaaDoorPx19
import Derived.Test.YtghjemcbkackjaaDoorPx20
import Derived.Test.YtghjemcbkackjaaDoorPx21
namespace Go.Proofs.YtghjemcbkackjaaDoor.T
open Go.RowKit Go.Proofs.YtghjemcbkackjaaDoorW.PrintWords Go.Proofs.YtghjemcbkackjaaDoor.F Go.Proofs.YtghjemcbkackjaaDoor.P Go.Proofs.YtghjemcbkackjaaDoor.Cal
set_option linter.unusedVariables false
set_option linter.unusedSimpArgs false

theorem refLeap_eq (y : Int) : epactref03_Leap.f y = some (lp y) := by
  obtain ⟨e1, e2, e3⟩ := tmod_lp y
  unfold epactref03_Leap.f lp
  have c400 : (Int.tmod y 400 == 0) = decide (y % 400 = 0) := by
    rw [Bool.eq_iff_iff, beq_iff_eq, decide_eq_true_iff]; exact e3
  by_cases a : y % 4 = 0
  · rw [if_pos (e1.2 a)]
    by_cases b : y % 100 = 0
    · rw [if_pos (e2.2 b), c400]; simp [a, b]
    · rw [if_neg (fun h => b (e2.1 h))]; simp [a, b]
  · rw [if_neg (fun h => a (e1.1 h)), c400]
    have : ¬ y % 400 = 0 := fun h => a (by omega)
    simp [a, this]
theorem refDays_eq (y m : Int) (h1 : 1 ≤ m) (h2 : m ≤ 12) : epactref03_days.f y m = some (dim y m) := by
  unfold epactref03_days.f dim
  rw [refLeap_eq]
  generalize lp y = b
  rcases month_cases h1 h2 with rfl | rfl | rfl | rfl | rfl | rfl | rfl | rfl | rfl | rfl | rfl | rfl
  all_goals (cases b <;> decide +kernel)
theorem refLast_eq (y m : Int) : epactref03_Last.f y m = some (if 1 ≤ y ∧ y ≤ 9999 ∧ 1 ≤ m ∧ m ≤ 12 then dim y m else 0, decide (1 ≤ y ∧ y ≤ 9999 ∧ 1 ≤ m ∧ m ≤ 12)) := by
  unfold epactref03_Last.f
  by_cases h : 1 ≤ y ∧ y ≤ 9999 ∧ 1 ≤ m ∧ m ≤ 12
  · rw [if_neg (by omega), if_neg (by omega), if_neg (by omega), if_neg (by omega), refDays_eq y m (by omega) (by omega), if_pos h, decide_eq_true h]; rfl
  · rw [if_neg h, decide_eq_false h]
    by_cases a : y < 1
    · rw [if_pos a]
    · rw [if_neg a]
      by_cases b : y > 9999
      · rw [if_pos b]
      · rw [if_neg b]
        by_cases c : m < 1
        · rw [if_pos c]
        · rw [if_neg c, if_pos (by omega)]
theorem refFirst_eq (y : Int) (h1 : 1 ≤ y) (h2 : y ≤ 9999) : epactref03_first.f y = some (fst y) := by
  unfold epactref03_first.f fst
  have e0 : wrap64 (y - 1) = y - 1 := wrap_in _ (by omega) (by omega)
  rw [e0, Int.tdiv_eq_ediv_of_nonneg (by omega), Int.tdiv_eq_ediv_of_nonneg (by omega), Int.tdiv_eq_ediv_of_nonneg (by omega)]
  refine congrArg some ?_
  simp (disch := omega) only [wrap_in]
  omega
theorem refSum_eq (y m : Int) (h1 : 1 ≤ m) (h2 : m ≤ 12) (hy : 1 ≤ y ∧ y ≤ 9999) : ∀ (d k : Nat) (i n : Int), i + d = m → 1 ≤ i → d + 1 ≤ k → -9999999 ≤ n → n ≤ 9999999 + (cum y i) → epactref03_Number.l0 k y m n i = some (n + (cum y m - cum y i), true)
  | 0, k, i, n, hi, _, hk, _, _ => by
    obtain ⟨k, rfl⟩ : ∃ j, k = j + 1 := ⟨k - 1, by omega⟩
    have : i = m := by omega
    subst this
    rw [epactref03_Number.l0, if_neg (by omega)]
    simp
  | d + 1, k, i, n, hi, h0, hk, hn, hn' => by
    obtain ⟨k, rfl⟩ : ∃ j, k = j + 1 := ⟨k - 1, by omega⟩
    have hs := cum_succ y i h0 (by omega)
    rw [if_neg (show ¬ i = 12 by omega)] at hs
    have hb := dim_bd y i
    have hc : cum y i ≤ 400 ∧ 0 ≤ cum y i := by
      rcases month_cases h0 (by omega : i ≤ 12) with rfl | rfl | rfl | rfl | rfl | rfl | rfl | rfl | rfl | rfl | rfl | rfl <;> (unfold cum cum0; first | (simp; done) | (simp; omega) | (simp; split <;> omega))
    rw [epactref03_Number.l0, if_pos (by omega), refDays_eq y i h0 (by omega)]
    simp only [Option.bind_some]
    rw [wrap_in (n + dim y i) (by omega) (by omega), wrap_in (i + 1) (by omega) (by omega), refSum_eq y m h1 h2 hy d k (i + 1) (n + dim y i) (by omega) (by omega) (by omega) (by omega) (by omega)]
    refine congrArg some (Prod.ext ?_ rfl)
    simp only []
    omega
theorem cum_one (y : Int) : cum y 1 = 0 := by unfold cum cum0; simp
theorem refNumber_eq (k : Nat) (y m d : Int) (hk : 15 ≤ k) : epactref03_Number.f k y m d = some (if 1 ≤ y ∧ y ≤ 9999 ∧ 1 ≤ m ∧ m ≤ 12 ∧ 1 ≤ d ∧ d ≤ dim y m then num y m d else 0, decide (1 ≤ y ∧ y ≤ 9999 ∧ 1 ≤ m ∧ m ≤ 12 ∧ 1 ≤ d ∧ d ≤ dim y m)) := by
  obtain ⟨k, rfl⟩ : ∃ j, k = j + 1 := ⟨k - 1, by omega⟩
  unfold epactref03_Number.f
  rw [refLast_eq]
  simp only [Option.bind_some]
  by_cases h : 1 ≤ y ∧ y ≤ 9999 ∧ 1 ≤ m ∧ m ≤ 12
  · rw [if_pos h, decide_eq_true h, if_pos rfl]
    by_cases hd : 1 ≤ d ∧ d ≤ dim y m
    · have hf := fst_bd h.1 h.2.1
      have hs := fst_succ y
      have hb := dim_bd y m
      rw [if_neg (by omega), decide_eq_false (show ¬ d > dim y m by omega), epactref03_Number.j0, if_neg (by decide), refFirst_eq y h.1 h.2.1]
      simp only [Option.bind_some]
      have hlo : -719162 ≤ fst y ∧ fst y ≤ 2932897 := by
        refine ⟨hf.1, ?_⟩
        have : fst (y + 1) = fst y + 365 + if lp y = true then 1 else 0 := hs
        split at this <;> omega
      rw [wrap_in (fst y + d) (by omega) (by omega), wrap_in (fst y + d - 1) (by omega) (by omega)]
      rw [refSum_eq y m (by omega) (by omega) ⟨h.1, h.2.1⟩ (m - 1).toNat k 1 (fst y + d - 1) (by omega) (by omega) (by omega) (by omega) (by rw [cum_one]; omega)]
      rw [if_pos ⟨h.1, h.2.1, h.2.2.1, h.2.2.2, hd⟩, decide_eq_true (show _ ∧ _ from ⟨h.1, h.2.1, h.2.2.1, h.2.2.2, hd⟩), cum_one]
      refine congrArg some (Prod.ext ?_ rfl)
      unfold num
      simp only []
      omega
    · have hz : ¬ (1 ≤ y ∧ y ≤ 9999 ∧ 1 ≤ m ∧ m ≤ 12 ∧ 1 ≤ d ∧ d ≤ dim y m) := fun z => hd ⟨z.2.2.2.2.1, z.2.2.2.2.2⟩
      rw [if_neg hz, decide_eq_false hz]
      by_cases a : d < 1
      · rw [if_pos a, epactref03_Number.j0, if_pos rfl]
      · rw [if_neg a, decide_eq_true (show d > dim y m by omega), epactref03_Number.j0, if_pos rfl]
  · rw [if_neg h, decide_eq_false h, if_neg (by decide), if_neg (fun z => h ⟨z.1, z.2.1, z.2.2.1, z.2.2.2.1⟩), decide_eq_false (fun z => h ⟨z.1, z.2.1, z.2.2.1, z.2.2.2.1⟩), epactref03_Number.j0, if_pos rfl]
theorem refWeek_eq (n : Int) : epactref03_Week.f n = some (wk n) := by
  unfold epactref03_Week.f wk
  have h : Int.tmod n 7 = n % 7 ∨ Int.tmod n 7 = n % 7 - 7 := by
    rw [Int.tmod_eq_emod]
    split
    · left; omega
    · right; rfl
  have h0 := Int.emod_nonneg n (show (7 : Int) ≠ 0 by omega)
  have h1 := Int.emod_lt_of_pos n (show (0 : Int) < 7 by omega)
  rcases h with h | h
  · rw [h, wrap_in _ (by omega) (by omega), Int.tmod_eq_emod_of_nonneg (by omega)]
    refine congrArg some ?_
    omega
  · rw [h, wrap_in _ (by omega) (by omega), Int.tmod_eq_emod_of_nonneg (by omega)]
    refine congrArg some ?_
    omega
/-- How many days of the weekday there are among the first t ones of the month, if r days are ahead of the first one. -/
def hits (r t : Int) : Int := (t + 6 - r) / 7
def manyW (r B t : Int) : Int := if hits r t ≤ B then hits r t else B
def atW (n r B t : Int) : Int := if manyW r B t = 0 then -1 else n + r + 7 * (manyW r B t - 1)
theorem refDayLoop (n last A B C : Int) (r : Int) (hr : r = (C - wk n + 7) % 7) (hC : 0 ≤ C ∧ C ≤ 6) (hB : 1 ≤ B ∧ B ≤ 5) (hl : 28 ≤ last ∧ last ≤ 31) (hn : -800000 ≤ n ∧ n ≤ 3000000) (K X : Int) :
    ∀ (d k : Nat) (t : Int), t + d = last → 0 ≤ t → d + 1 ≤ k → epactref17_Day.l0 k n last (atW n r B t) (manyW r B t) (n + t) K A B C X = some (atW n r B last, true)
  | 0, k, t, ht, h0, hk => by
    obtain ⟨k, rfl⟩ : ∃ j, k = j + 1 := ⟨k - 1, by omega⟩
    have : t = last := by omega
    subst this
    rw [epactref17_Day.l0, wrap_in (n + t) (by omega) (by omega), if_neg (by omega)]
  | d + 1, k, t, ht, h0, hk => by
    obtain ⟨k, rfl⟩ : ∃ j, k = j + 1 := ⟨k - 1, by omega⟩
    have ih := refDayLoop n last A B C r hr hC hB hl hn K X d k (t + 1) (by omega) (by omega) (by omega)
    have e1 : n + t + 1 = n + (t + 1) := by omega
    have hr6 : 0 ≤ r ∧ r ≤ 6 := by omega
    have hw : wk (n + t) = C ↔ t % 7 = r := by
      unfold wk at hr ⊢
      omega
    have hm : 0 ≤ manyW r B t ∧ manyW r B t ≤ 5 := by unfold manyW hits; split <;> omega
    rw [epactref17_Day.l0, wrap_in (n + last) (by omega) (by omega), if_pos (by omega), refWeek_eq]
    simp only [Option.bind_some]
    rw [wrap_in (n + t + 1) (by omega) (by omega), e1, wrap_in (manyW r B t + 1) (by omega) (by omega)]
    by_cases c : wk (n + t) = C
    · rw [if_pos c]
      have c' := hw.1 c
      by_cases b : manyW r B t < B
      · rw [if_pos b]
        have e2 : manyW r B (t + 1) = manyW r B t + 1 := by
          unfold manyW hits at b ⊢
          split at b <;> split <;> omega
        have e3 : atW n r B (t + 1) = n + t := by
          unfold atW
          rw [e2, if_neg (by omega)]
          unfold manyW hits at b ⊢
          split at b <;> omega
        rw [e2, e3] at ih
        exact ih
      · rw [if_neg b]
        have e2 : manyW r B (t + 1) = manyW r B t := by
          unfold manyW hits at b ⊢
          split at b <;> split <;> omega
        have e3 : atW n r B (t + 1) = atW n r B t := by unfold atW; rw [e2]
        rw [e2, e3] at ih
        exact ih
    · rw [if_neg c]
      have c' : ¬ t % 7 = r := fun h => c (hw.2 h)
      have e2 : manyW r B (t + 1) = manyW r B t := by
        unfold manyW
        have : hits r (t + 1) = hits r t := by unfold hits; omega
        rw [this]
      have e3 : atW n r B (t + 1) = atW n r B t := by unfold atW; rw [e2]
      rw [e2, e3] at ih
      exact ih
theorem refDay_eq (k : Nat) (K A B C X y : Int) (hk : 60 ≤ k) : epactref17_Day.f k K A B C X y = some (if (1 ≤ y ∧ y ≤ 9999) ∧ rightR K A B C X = true then ruleDay K A B C y else 0, decide ((1 ≤ y ∧ y ≤ 9999) ∧ rightR K A B C X = true)) := by
  obtain ⟨k, rfl⟩ : ∃ j, k = j + 1 := ⟨k - 1, by omega⟩
  unfold epactref17_Day.f
  rw [refNumber_eq (k + 1) y 1 1 (by omega), refRight_eq]
  simp only [Option.bind_some]
  have hy1 : (1 ≤ y ∧ y ≤ 9999 ∧ (1 : Int) ≤ 1 ∧ (1 : Int) ≤ 12 ∧ (1 : Int) ≤ 1 ∧ (1 : Int) ≤ dim y 1) ↔ (1 ≤ y ∧ y ≤ 9999) := by
    rw [dim_jan]; omega
  by_cases hR : rightR K A B C X = true
  · rw [if_pos hR]
    by_cases hy : 1 ≤ y ∧ y ≤ 9999
    · rw [decide_eq_true (hy1.2 hy), if_pos (hy1.2 hy), num_first, if_pos ⟨hy, hR⟩, decide_eq_true (show _ ∧ _ from ⟨hy, hR⟩)]
      have hr := (right_iff K A B C X).1 hR
      have hf := fst_bd hy.1 hy.2
      have hf2 : fst y ≤ 2932897 := by
        have := fst_succ y
        split at this <;> omega
      rw [show (!true) = false from rfl, epactref17_Day.j0, if_neg (by decide)]
      unfold ruleDay
      by_cases k1 : K = 1
      · subst k1
        rw [if_pos rfl, if_neg (show ¬ (1 : Int) = 2 by omega), if_pos rfl, refLeap_eq]
        simp only [Option.bind_some]
        rw [wrap_in (fst y + A) (by omega) (by omega), wrap_in (fst y + A - 1) (by omega) (by omega), wrap_in (fst y + A - 1 + 1) (by omega) (by omega)]
        by_cases a : A ≥ 60
        · rw [if_pos a]
          cases hl : lp y
          · rw [if_neg (by decide), if_pos (Or.inr rfl)]
            refine congrArg some (Prod.ext ?_ rfl); simp only []; omega
          · rw [if_pos rfl, if_neg (by rintro (h | h); · omega
                                       · cases h)]
            refine congrArg some (Prod.ext ?_ rfl); simp only []; omega
        · rw [if_neg a, if_pos (Or.inl (by omega))]
          refine congrArg some (Prod.ext ?_ rfl); simp only []; omega
      · rw [if_neg k1]
        by_cases k2 : K = 2
        · rw [if_pos k2, if_pos k2, wrap_in (fst y + A) (by omega) (by omega)]
        · rw [if_neg k2, if_neg k2, if_neg k1]
          have k0 : K = 0 := by omega
          have hA : 1 ≤ A ∧ A ≤ 12 := by omega
          have hB : 1 ≤ B ∧ B ≤ 5 := by omega
          have hC : 0 ≤ C ∧ C ≤ 6 := by omega
          have hdb := dim_bd y A
          have hV : Vld y A 1 := ⟨hy.1, hy.2, hA.1, hA.2, by omega, by omega⟩
          have hnr := num_range hV
          rw [refNumber_eq k y A 1 (by omega), refLast_eq, if_pos (show _ ∧ _ from hV), if_pos ⟨hy.1, hy.2, hA.1, hA.2⟩]
          simp only [Option.bind_some]
          have hloop := refDayLoop (num y A 1) (dim y A) A B C ((C - wk (num y A 1) + 7) % 7) rfl hC hB hdb (by omega) K X (dim y A).toNat k 0 (by omega) (by omega) (by omega)
          have hr6 : 0 ≤ (C - wk (num y A 1) + 7) % 7 ∧ (C - wk (num y A 1) + 7) % 7 ≤ 6 := by omega
          have hm0 : manyW ((C - wk (num y A 1) + 7) % 7) B 0 = 0 := by unfold manyW hits; split <;> omega
          have ha0 : atW (num y A 1) ((C - wk (num y A 1) + 7) % 7) B 0 = -1 := by unfold atW; rw [hm0]; rfl
          rw [hm0, ha0, Int.add_zero] at hloop
          rw [hloop]
          refine congrArg some (Prod.ext ?_ rfl)
          simp only []
          unfold offW
          generalize (C - wk (num y A 1) + 7) % 7 = r at hr6
          generalize num y A 1 = n
          generalize dim y A = q at hdb
          unfold atW manyW hits
          simp only []
          have hB' : B = 1 ∨ B = 2 ∨ B = 3 ∨ B = 4 ∨ B = 5 := by omega
          rcases hB' with rfl | rfl | rfl | rfl | rfl
          all_goals (repeat' split) <;> omega
    · rw [decide_eq_false (fun h => hy (hy1.1 h)), if_neg (fun h => hy (hy1.1 h)), if_neg (fun h => hy h.1), decide_eq_false (fun h => hy h.1)]
      rw [show (!false) = true from rfl, epactref17_Day.j0, if_pos rfl]
  · have hz : ¬ ((1 ≤ y ∧ y ≤ 9999) ∧ rightR K A B C X = true) := fun h => hR h.2
    rw [if_neg hR, if_neg hz, decide_eq_false hz, epactref17_Day.j0, if_pos rfl]
theorem refAt_eq (k : Nat) (K A B C X y : Int) (hk : 60 ≤ k) : epactref17_At.f k K A B C X y = some (if (1 ≤ y ∧ y ≤ 9999) ∧ rightR K A B C X = true then ruleDay K A B C y * 86400 + X else 0, decide ((1 ≤ y ∧ y ≤ 9999) ∧ rightR K A B C X = true)) := by
  unfold epactref17_At.f
  rw [refDay_eq k K A B C X y hk]
  simp only [Option.bind_some]
  by_cases h : (1 ≤ y ∧ y ≤ 9999) ∧ rightR K A B C X = true
  · have hb := ruleDay_bd h.1 h.2
    have hf := fst_bd h.1.1 h.1.2
    have hf2 : fst y ≤ 2932897 := by
      have := fst_succ y
      split at this <;> omega
    have hr := (right_iff K A B C X).1 h.2
    rw [decide_eq_true h, if_pos rfl, if_pos h, if_pos h, wrap_in (86400 * ruleDay K A B C y) (by omega) (by omega), wrap_in (86400 * ruleDay K A B C y + X) (by omega) (by omega), Int.mul_comm]
  · rw [decide_eq_false h, if_neg (by decide), if_neg h]
end Go.Proofs.YtghjemcbkackjaaDoor.T
