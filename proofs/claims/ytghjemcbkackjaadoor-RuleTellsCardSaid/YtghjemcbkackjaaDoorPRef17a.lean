/- The document's own answer for rules (texts and times): what it computes is what the program's functions compute. -/
import Derived.Test.YtghjemcbkackjaaDoorPRule4
import Derived.Test.YtghjemcbkackjaaDoorPx11
import Derived.Test.YtghjemcbkackjaaDoorPx13
import Derived.Test.YtghjemcbkackjaaDoorPx15
import Derived.Test.YtghjemcbkackjaaDoorPx18
namespace Go.Proofs.YtghjemcbkackjaaDoor.T
open Go.RowKit Go.Proofs.YtghjemcbkackjaaDoorW.PrintWords Go.Proofs.YtghjemcbkackjaaDoor.F Go.Proofs.YtghjemcbkackjaaDoor.P
set_option linter.unusedVariables false
set_option linter.unusedSimpArgs false

theorem digit_S (n : Nat) (h : n < 10) : strOfNums [(wrap64 (48 + (n : Int))) % 256] = S [UInt8.ofNat (48 + n)] := by
  have e : (wrap64 (48 + (n : Int))) % 256 = ((48 + n : Nat) : Int) := by rw [wrap_in _ (by omega) (by omega)]; omega
  rw [e]; rfl
theorem digs_one (m n : Nat) (h : n < 10) : digsN (m + 1) n = [UInt8.ofNat (48 + n)] := by rw [digsN, if_pos h]
theorem digs_more (m n : Nat) (h : ¬ n < 10) : digsN (m + 1) n = digsN m (n / 10) ++ [UInt8.ofNat (48 + n % 10)] := by rw [digsN, if_neg h]
theorem dec17 : ∀ (m n k : Nat) (a : Int), n < 10 ^ (m + 1) → n ≤ 9223372036854775807 → m ≤ 19 → m ≤ k → a ≤ 1 → (m : Int) - 100 ≤ a → epactref17_decimals.f (k + 1) (n : Int) a = some (S (digsN (m + 1) n))
  | 0, n, k, a, hn, _, _, hk, ha, _ => by
    rw [epactref17_decimals.f]
    have e2 : Int.tmod (n : Int) 10 = (n : Int) := by rw [Int.tmod_eq_emod_of_nonneg (by omega)]; omega
    rw [e2]
    simp only [Option.bind_some]
    rw [if_pos (by omega), if_pos ha, digit_S n (by omega), digs_one 0 n (by omega)]
  | m + 1, n, k, a, hn, h64, hm, hk, ha, ha' => by
    obtain ⟨k, rfl⟩ : ∃ j, k = j + 1 := ⟨k - 1, by omega⟩
    rw [epactref17_decimals.f]
    have e1 : wrap64 (Int.tdiv (n : Int) 10) = ((n / 10 : Nat) : Int) := by
      rw [Int.tdiv_eq_ediv_of_nonneg (by omega), wrap_in _ (by omega) (by omega)]; rfl
    have e2 : Int.tmod (n : Int) 10 = ((n % 10 : Nat) : Int) := by rw [Int.tmod_eq_emod_of_nonneg (by omega)]; rfl
    have e3 : wrap64 (a - 1) = a - 1 := wrap_in _ (by omega) (by omega)
    rw [e1, e2, e3]
    simp only [Option.bind_some]
    rw [digit_S _ (by omega)]
    by_cases h : n < 10
    · rw [if_pos (by omega), if_pos ha, digs_one _ n h, Nat.mod_eq_of_lt h]
    · have hl := digsN_len (m + 1) (n / 10)
      rw [if_neg (by omega), dec17 m (n / 10) k (a - 1) (by rw [Nat.pow_succ] at hn; omega) (by omega) (by omega) (by omega) (by omega) (by omega)]
      simp only [Option.bind_some]
      rw [S_size, S_size, if_pos (by simp; omega), S_append, digs_more _ n h]
theorem dec17_one (n k : Nat) (hn : n ≤ 9223372036854775807) (hk : 20 ≤ k) : epactref17_decimals.f k (n : Int) 1 = some (S (digsN 20 n)) := by
  obtain ⟨k, rfl⟩ : ∃ j, k = j + 1 := ⟨k - 1, by omega⟩
  exact dec17 19 n k 1 (by omega) hn (by omega) (by omega) (by omega) (by omega)
/-- A number in two digits. -/
theorem dec17_two (n k : Nat) (hn : n < 60) (hk : 25 ≤ k) : epactref17_decimals.f k (n : Int) 2 = some (S (digsN 20 (n / 10) ++ digsN 20 (n % 10))) := by
  obtain ⟨k, rfl⟩ : ∃ j, k = j + 1 := ⟨k - 1, by omega⟩
  rw [epactref17_decimals.f]
  have e1 : wrap64 (Int.tdiv (n : Int) 10) = ((n / 10 : Nat) : Int) := by
    rw [Int.tdiv_eq_ediv_of_nonneg (by omega), wrap_in _ (by omega) (by omega)]; rfl
  have e2 : Int.tmod (n : Int) 10 = ((n % 10 : Nat) : Int) := by rw [Int.tmod_eq_emod_of_nonneg (by omega)]; rfl
  have e3 : wrap64 ((2 : Int) - 1) = 1 := by rw [wrap_in _ (by omega) (by omega)]; rfl
  have hd := dec17_one (n / 10) k (by omega) (by omega)
  have hl := digsN_len 20 (n / 10)
  rw [e1, e2, e3, hd]
  simp only [Option.bind_some]
  rw [digit_S _ (by omega), S_size, S_size, if_pos (show (digsN 20 (n / 10)).length + [UInt8.ofNat (48 + n % 10)].length ≤ 9223372036854775807 by simp; omega), S_append, digs_one 19 (n % 10) (by omega)]
  rw [if_neg (show ¬ ((2 : Int) ≤ 1) by omega)]
  split <;> rfl

theorem refClockB (k a : Nat) (h : a ≤ 604799) (p : List UInt8) (hp : p.length ≤ 1) (hk : 30 ≤ k) : epactref17_Clock.j1 (k + 1) (a : Int) (S p) = some (S (p ++ clockB a), true) := by
  simp only [epactref17_Clock.j1]
  have e1 : wrap64 (Int.tdiv (a : Int) 3600) = ((a / 3600 : Nat) : Int) := by
    rw [Int.tdiv_eq_ediv_of_nonneg (by omega), wrap_in _ (by omega) (by omega)]; rfl
  have e2 : Int.tmod (a : Int) 3600 = ((a % 3600 : Nat) : Int) := by rw [Int.tmod_eq_emod_of_nonneg (by omega)]; rfl
  have e3 : Int.tmod (a : Int) 60 = ((a % 60 : Nat) : Int) := by rw [Int.tmod_eq_emod_of_nonneg (by omega)]; rfl
  have e4 : Int.tmod (wrap64 (Int.tdiv (a : Int) 60)) 60 = ((a / 60 % 60 : Nat) : Int) := by
    rw [Int.tdiv_eq_ediv_of_nonneg (by omega), wrap_in _ (by omega) (by omega), Int.tmod_eq_emod_of_nonneg (by omega)]; rfl
  rw [e1, e2, e3, e4, dec17_one _ k (by omega) (by omega), dec17_two (a % 60) k (by omega) (by omega), dec17_two (a / 60 % 60) k (by omega) (by omega)]
  simp only [Option.bind_some]
  have l1 := digsN_len 20 (a / 3600)
  have l2 := digsN_len 20 (a % 60 / 10)
  have l3 := digsN_len 20 (a % 60 % 10)
  have l4 := digsN_len 20 (a / 60 % 60 / 10)
  have l5 := digsN_len 20 (a / 60 % 60 % 10)
  rw [show (⟨#[58]⟩ : ByteArray) = S [58] from rfl]
  simp only [S_size, S_append, List.length_append]
  unfold clockB pairL
  by_cases h1 : a % 3600 = 0
  · have h2 : a % 60 = 0 := by omega
    have h3 : a / 60 % 60 = 0 := by omega
    rw [if_pos (by omega), if_pos (by omega), if_pos (by omega), if_neg (by omega), if_neg (by omega), List.append_nil]
  · rw [if_pos (by omega), if_neg (by omega), if_pos (by omega), if_pos (by omega)]
    by_cases h2 : a % 60 = 0
    · rw [if_pos (by omega), if_neg (by omega), if_pos (by omega)]
      simp
    · rw [if_neg (by omega), if_pos (by omega), if_pos (by omega), if_pos (by omega)]
      simp
theorem refClock_eq (k : Nat) (sec : Int) (hk : 33 ≤ k) : epactref17_Clock.f k sec = some (S (clockL sec).1, (clockL sec).2) := by
  obtain ⟨k, rfl⟩ : ∃ j, k = j + 2 := ⟨k - 2, by omega⟩
  unfold epactref17_Clock.f clockL
  by_cases h : -604799 ≤ sec ∧ sec ≤ 604799
  · rw [if_neg (by omega), if_pos h]
    have hd : decide (sec > 604799) = false := decide_eq_false (by omega)
    rw [hd, epactref17_Clock.j0, if_neg (by decide)]
    by_cases h0 : sec < 0
    · rw [if_pos h0, if_pos h0]
      have e : wrap64 (-sec) = ((sec.natAbs : Nat) : Int) := by rw [wrap_in _ (by omega) (by omega)]; omega
      rw [e]
      exact refClockB k sec.natAbs (by omega) [45] (by simp) (by omega)
    · rw [if_neg h0, if_neg h0]
      have e : sec = ((sec.natAbs : Nat) : Int) := by omega
      conv => lhs; rw [e]
      exact refClockB k sec.natAbs (by omega) [] (by simp) (by omega)
  · rw [if_neg h]
    by_cases h1 : sec < -604799
    · rw [if_pos h1, epactref17_Clock.j0, if_pos rfl]
    · rw [if_neg h1]
      have hd : decide (sec > 604799) = true := decide_eq_true (by omega)
      rw [hd, epactref17_Clock.j0, if_pos rfl]
theorem refRight_eq (k : Nat) (K A B C X : Int) : epactref17_Right.f (k + 1) K A B C X = some (rightR K A B C X) := by
  unfold epactref17_Right.f
  simp only [epactref17_Right.j0, if_true]
  unfold rightR
  repeat' split
  all_goals (refine congrArg some ?_; rw [Bool.eq_iff_iff]; simp only [decide_eq_true_eq, beq_iff_eq, Bool.false_eq_true, false_iff] at *; omega)

theorem sixty_no {c a b : UInt8} {r : List UInt8} (h : ¬ (c = 58 ∧ isDig a = true ∧ isDig b = true ∧ a.toNat ≤ 53)) : sixtyL (c :: a :: b :: r) = (0, c :: a :: b :: r, false) := if_neg h
theorem sixty_yes {c a b : UInt8} {r : List UInt8} (h : c = 58 ∧ isDig a = true ∧ isDig b = true ∧ a.toNat ≤ 53) : sixtyL (c :: a :: b :: r) = (10 * ((a.toNat : Int) - 48) + ((b.toNat : Int) - 48), r, true) := if_pos h
/-- What stands behind a colon. -/
theorem refTwo_eq (l : List UInt8) : epactref17_two.f (S l) = some (if (sixtyL l).2.2 = true then (sixtyL l).1 else -1, S (sixtyL l).2.1) := by
  match l with
  | [] => rfl
  | [_] => rfl
  | [_, _] => rfl
  | c :: a :: b :: r =>
    have hlen : (c :: a :: b :: r).length = r.length + 3 := rfl
    have u1 := u8_lt a
    have u2 := u8_lt b
    have ia : isDig a = true ↔ 48 ≤ a.toNat ∧ a.toNat ≤ 57 := by unfold isDig; simp
    have ib : isDig b = true ↔ 48 ≤ b.toNat ∧ b.toNat ≤ 57 := by unfold isDig; simp
    unfold epactref17_two.f
    rw [S_sizeI, if_neg (by rw [hlen]; omega), if_pos (by rw [hlen]; omega), S_bt0, S_bt1, S_bt2]
    by_cases hc : c = 58
    · subst hc
      rw [if_pos (show ((58 : UInt8).toNat : Int) = 58 from rfl), if_pos (show (1 : Int) < ((58 :: a :: b :: r).length : Int) by rw [hlen]; omega)]
      by_cases a1 : (a.toNat : Int) < 48
      · rw [if_pos a1, sixty_no (by rw [ia]; omega)]; rfl
      · rw [if_neg a1]
        by_cases a2 : (a.toNat : Int) > 53
        · rw [if_pos a2, sixty_no (by omega)]; rfl
        · rw [if_neg a2, if_pos (show (2 : Int) < ((58 :: a :: b :: r).length : Int) by rw [hlen]; omega)]
          by_cases b1 : (b.toNat : Int) < 48
          · rw [if_pos b1, sixty_no (by rw [ib]; omega)]; rfl
          · rw [if_neg b1]
            by_cases b2 : (b.toNat : Int) > 57
            · rw [if_pos b2, sixty_no (by rw [ib]; omega)]; rfl
            · have hyes : (58 : UInt8) = 58 ∧ isDig a = true ∧ isDig b = true ∧ a.toNat ≤ 53 := by rw [ia, ib]; exact ⟨rfl, by omega, by omega, by omega⟩
              rw [if_neg b2, if_pos (show (3 : Int) ≤ ((58 :: a :: b :: r).length : Int) by rw [hlen]; omega), sixty_yes hyes]
              have e1 : ((a.toNat : Int) - 48) % 256 = (a.toNat : Int) - 48 := by omega
              have e2 : ((b.toNat : Int) - 48) % 256 = (b.toNat : Int) - 48 := by omega
              rw [e1, e2, S_drop]
              rfl
    · rw [if_neg (fun h => hc (u8_eq (by simpa using Int.ofNat_inj.1 h))), sixty_no (fun h => hc h.1)]
      rfl
end Go.Proofs.YtghjemcbkackjaaDoor.T
