/- Clocks: what rule.Clock writes, and that rule.Time reads it back. -/
import Derived.Test.YtghjemcbkackjaaDoorPRule
namespace Go.Proofs.YtghjemcbkackjaaDoor.T
open Go.RowKit Go.Proofs.YtghjemcbkackjaaDoorW.PrintWords Go.Proofs.YtghjemcbkackjaaDoor.F Go.Proofs.YtghjemcbkackjaaDoor.P
set_option linter.unusedVariables false
set_option linter.unusedSimpArgs false

theorem itoa_S (n : Int) (h0 : -9223372036854775808 ≤ n) (h1 : n ≤ 9223372036854775807) : strconv_Itoa.f n = some (S (itoaK n)) := by
  unfold strconv_Itoa.f
  rw [if_pos h0, if_pos h1]
theorem itoaK_nat (n : Nat) : itoaK (n : Int) = digsN 20 n := by
  unfold itoaK
  rw [if_neg (by omega), Int.toNat_natCast]
def pairL (m : Nat) : List UInt8 := 58 :: (digsN 20 (m / 10) ++ digsN 20 (m % 10))
theorem digsN_len : ∀ k u, (digsN k u).length ≤ k
  | 0, _ => by simp [digsN]
  | k + 1, u => by
    rw [digsN]
    split
    · simp
    · have := digsN_len k (u / 10); simp; omega
theorem pair_eq (m : Nat) (h : m < 100000) : rule_pair.f (m : Int) = some (S (pairL m)) := by
  unfold rule_pair.f
  have e1 : wrap64 (Int.tdiv (m : Int) 10) = ((m / 10 : Nat) : Int) := by
    rw [Int.tdiv_eq_ediv_of_nonneg (by omega), wrap_in _ (by omega) (by omega)]; rfl
  have e2 : Int.tmod (m : Int) 10 = ((m % 10 : Nat) : Int) := by rw [Int.tmod_eq_emod_of_nonneg (by omega)]; rfl
  have l1 := digsN_len 20 (m / 10)
  have l2 := digsN_len 20 (m % 10)
  rw [e1, e2, itoa_S _ (by omega) (by omega), itoa_S _ (by omega) (by omega), itoaK_nat, itoaK_nat]
  simp only [Option.bind_some]
  rw [S_size, S_size, if_pos (by omega), if_pos (by omega), show (⟨#[58]⟩ : ByteArray) = S [58] from rfl, S_append, S_append]
  rfl
/-- The text of a time. -/
def clockB (a : Nat) : List UInt8 := digsN 20 (a / 3600) ++ (if a % 60 ≠ 0 then pairL (a / 60 % 60) ++ pairL (a % 60) else if a / 60 % 60 ≠ 0 then pairL (a / 60 % 60) else [])
def clockL (sec : Int) : List UInt8 × Bool := if -604799 ≤ sec ∧ sec ≤ 604799 then ((if sec < 0 then [45] else []) ++ clockB sec.natAbs, true) else ([], false)
theorem pairL_len (m : Nat) : (pairL m).length ≤ 41 := by
  have l1 := digsN_len 20 (m / 10)
  have l2 := digsN_len 20 (m % 10)
  simp [pairL]; omega
theorem clockJ_eq (k a : Nat) (h : a ≤ 604799) (p : List UInt8) (hp : p.length ≤ 1) : rule_Clock.j0 (k + 1) (a : Int) (S p) = some (S (p ++ clockB a), true) := by
  simp only [rule_Clock.j0]
  have e1 : wrap64 (Int.tdiv (a : Int) 3600) = ((a / 3600 : Nat) : Int) := by
    rw [Int.tdiv_eq_ediv_of_nonneg (by omega), wrap_in _ (by omega) (by omega)]; rfl
  have e2 : Int.tmod (a : Int) 60 = ((a % 60 : Nat) : Int) := by rw [Int.tmod_eq_emod_of_nonneg (by omega)]; rfl
  have e3 : wrap64 (Int.tdiv (a : Int) 60) = ((a / 60 : Nat) : Int) := by
    rw [Int.tdiv_eq_ediv_of_nonneg (by omega), wrap_in _ (by omega) (by omega)]; rfl
  have e4 : Int.tmod ((a / 60 : Nat) : Int) 60 = ((a / 60 % 60 : Nat) : Int) := by rw [Int.tmod_eq_emod_of_nonneg (by omega)]; rfl
  rw [e1, e2, e3, e4, itoa_S _ (by omega) (by omega), itoaK_nat]
  have l1 := digsN_len 20 (a / 3600)
  have l2 := pairL_len (a / 60 % 60)
  have l3 := pairL_len (a % 60)
  simp only [Option.bind_some]
  rw [S_size, S_size, if_pos (by omega)]
  unfold clockB
  by_cases hs : a % 60 = 0
  · rw [if_pos (show ((a % 60 : Nat) : Int) = 0 by omega), if_neg (show ¬ (a % 60 ≠ 0) by simpa using hs)]
    by_cases hm : a / 60 % 60 = 0
    · rw [if_pos (show ((a / 60 % 60 : Nat) : Int) = 0 by omega), if_neg (show ¬ (a / 60 % 60 ≠ 0) by simpa using hm), S_append]; simp
    · rw [if_neg (show ¬ ((a / 60 % 60 : Nat) : Int) = 0 by omega), if_pos (show a / 60 % 60 ≠ 0 by simpa using hm), pair_eq _ (by omega)]
      simp only [Option.bind_some]
      rw [S_size, if_pos (by omega), S_append, S_append]; simp
  · rw [if_neg (show ¬ ((a % 60 : Nat) : Int) = 0 by omega), if_pos (show a % 60 ≠ 0 by simpa using hs), pair_eq _ (by omega), pair_eq _ (by omega)]
    simp only [Option.bind_some]
    rw [S_size, S_size, if_pos (by omega), if_pos (by omega), S_append, S_append, S_append]; simp
theorem clock_eq (k : Nat) (sec : Int) (hs : (Lit.int .i64 sec).wf = true) : rule_Clock.f (k + 1) sec = some (S (clockL sec).1, (clockL sec).2) := by
  unfold rule_Clock.f clockL
  rw [within_eq]
  simp only [Option.bind_some, decide_eq_true_eq]
  by_cases h : -604799 ≤ sec ∧ sec ≤ 604799
  · rw [if_pos h, if_pos h]
    by_cases h0 : sec < 0
    · rw [if_pos h0, if_pos h0]
      have e : wrap64 (-sec) = ((sec.natAbs : Nat) : Int) := by rw [wrap_in _ (by omega) (by omega)]; omega
      rw [e]
      exact clockJ_eq k sec.natAbs (by omega) [45] (by simp)
    · rw [if_neg h0, if_neg h0]
      have e : sec = ((sec.natAbs : Nat) : Int) := by omega
      conv => lhs; rw [e]
      exact clockJ_eq k sec.natAbs (by omega) [] (by simp)
  · rw [if_neg h, if_neg h]

/-! ### What is written is read -/
theorem hours_ok : ∀ h, h < 168 → ((digsN 20 h).all isDig = true ∧ valL (digsN 20 h) = h ∧ 1 ≤ (digsN 20 h).length ∧ (digsN 20 h).length ≤ 3) := by decide +kernel
theorem pairs_ok : ∀ m, m < 60 → pairL m = [58, UInt8.ofNat (48 + m / 10), UInt8.ofNat (48 + m % 10)] := by decide +kernel
theorem dl_app (a b : List UInt8) (ha : a.all isDig = true) (hb : ∀ c, b.head? = some c → isDig c = false) : dl (a ++ b) = a.length := by
  induction a with
  | nil =>
    cases b with
    | nil => rfl
    | cons c b => rw [List.nil_append, dl_cons, if_neg (by rw [hb c rfl]; simp)]; rfl
  | cons c a ih =>
    simp only [List.all_cons, Bool.and_eq_true] at ha
    rw [List.cons_append, dl_cons, if_pos ha.1, ih ha.2]; rfl
theorem sixty_pair (m : Nat) (h : m < 60) (r : List UInt8) : sixtyL (pairL m ++ r) = ((m : Int), r, true) := by
  rw [pairs_ok m h]
  show sixtyL (58 :: UInt8.ofNat (48 + m / 10) :: UInt8.ofNat (48 + m % 10) :: r) = _
  simp only [sixtyL]
  have h1 : (UInt8.ofNat (48 + m / 10)).toNat = 48 + m / 10 := by rw [UInt8.toNat_ofNat']; omega
  have h2 : (UInt8.ofNat (48 + m % 10)).toNat = 48 + m % 10 := by rw [UInt8.toNat_ofNat']; omega
  rw [if_pos ⟨trivial, by unfold isDig; rw [h1]; simp; omega, by unfold isDig; rw [h2]; simp; omega, by rw [h1]; omega⟩, h1, h2]
  simp only [Prod.mk.injEq, and_true]
  omega
theorem sixty_other (r : List UInt8) (h : r.head? ≠ some 58) : sixtyL r = (0, r, false) := by
  unfold sixtyL
  split
  · rename_i c a b r'
    rw [if_neg]
    rintro ⟨rfl, _⟩
    exact h rfl
  · rfl
/-- Behind the hours: nothing, or a colon. -/
theorem time_body (a : Nat) (h : a ≤ 604799) (tail : List UInt8) (ht : ∀ c, tail.head? = some c → isDig c = false ∧ c ≠ 58) (sg : Int) (l : List UInt8) (hl : signL l = (sg, clockB a ++ tail)) :
    timeL l = (sg * (a : Int), tail, true) := by
  obtain ⟨d1, d2, d3, d4⟩ := hours_ok (a / 3600) (by omega)
  have hcol : isDig 58 = false := by decide
  obtain ⟨rest, hrest, hhead⟩ : ∃ rest, clockB a ++ tail = digsN 20 (a / 3600) ++ rest ∧ (∀ c, rest.head? = some c → isDig c = false) ∧
      (a % 60 ≠ 0 → rest = pairL (a / 60 % 60) ++ (pairL (a % 60) ++ tail)) ∧ (a % 60 = 0 → a / 60 % 60 ≠ 0 → rest = pairL (a / 60 % 60) ++ tail) ∧ (a % 60 = 0 → a / 60 % 60 = 0 → rest = tail) := by
    unfold clockB
    by_cases hs : a % 60 = 0
    · rw [if_neg (by simpa using hs)]
      by_cases hm : a / 60 % 60 = 0
      · rw [if_neg (by simpa using hm)]
        exact ⟨tail, by simp, fun c hc => (ht c hc).1, fun h' => absurd hs h', fun _ h' => absurd hm h', fun _ _ => rfl⟩
      · rw [if_pos (by simpa using hm)]
        exact ⟨pairL (a / 60 % 60) ++ tail, by simp, fun c hc => by simp [pairL] at hc; rw [← hc]; exact hcol, fun h' => absurd hs h', fun _ _ => rfl, fun _ h' => absurd h' hm⟩
    · rw [if_pos (by simpa using hs)]
      exact ⟨pairL (a / 60 % 60) ++ (pairL (a % 60) ++ tail), by simp, fun c hc => by simp [pairL] at hc; rw [← hc]; exact hcol, fun _ => rfl, fun h' => absurd h' hs, fun h' => absurd h' hs⟩
  have hdl : dl (digsN 20 (a / 3600) ++ rest) = (digsN 20 (a / 3600)).length := dl_app _ _ d1 hhead.1
  have hmin : min (dl (digsN 20 (a / 3600) ++ rest)) 3 = (digsN 20 (a / 3600)).length := by rw [hdl]; omega
  have hhour : hourL (digsN 20 (a / 3600) ++ rest) = (a / 3600, (digsN 20 (a / 3600)).length) := by
    unfold hourL
    rw [hmin, List.take_left, d2, if_neg (by omega)]
  unfold timeL
  rw [hl, hrest]
  simp only []
  rw [hhour]
  simp only []
  rw [if_neg (by omega), List.drop_left]
  by_cases hs : a % 60 = 0
  · by_cases hm : a / 60 % 60 = 0
    · rw [hhead.2.2.2 hs hm, sixty_other _ (fun e => (ht 58 e).2 rfl)]
      simp only [moreL, Prod.mk.injEq, and_true, Bool.false_eq_true, if_false]
      congr 1
      omega
    · rw [hhead.2.2.1 hs hm, sixty_pair _ (by omega)]
      simp only [moreL, if_true]
      rw [sixty_other _ (fun e => (ht 58 e).2 rfl)]
      simp only [Prod.mk.injEq, and_true]
      congr 1
      omega
  · rw [hhead.2.1 hs, sixty_pair _ (by omega)]
    simp only [moreL, if_true]
    rw [sixty_pair _ (by omega)]
    simp only [Prod.mk.injEq, and_true]
    congr 1
    omega
theorem clockB_head (a : Nat) (h : a ≤ 604799) (tail : List UInt8) : ∃ c r, clockB a ++ tail = c :: r ∧ isDig c = true := by
  obtain ⟨d1, d2, d3, d4⟩ := hours_ok (a / 3600) (by omega)
  unfold clockB
  match hq : digsN 20 (a / 3600), d3 with
  | c :: q, _ =>
    rw [hq] at d1
    simp only [List.all_cons, Bool.and_eq_true] at d1
    exact ⟨c, _, rfl, d1.1⟩
theorem time_clock (sec : Int) (h : -604799 ≤ sec ∧ sec ≤ 604799) (tail : List UInt8) (ht : ∀ c, tail.head? = some c → isDig c = false ∧ c ≠ 58) : timeL ((clockL sec).1 ++ tail) = (sec, tail, true) := by
  unfold clockL
  rw [if_pos h]
  by_cases h0 : sec < 0
  · simp only [if_pos h0]
    rw [time_body sec.natAbs (by omega) tail ht (-1) _ (by simp [signL])]
    congr 1
    omega
  · simp only [if_neg h0, List.nil_append]
    obtain ⟨c, r, e, hc⟩ := clockB_head sec.natAbs (by omega) tail
    have hc' : c ≠ 45 ∧ c ≠ 43 := by constructor <;> (rintro rfl; exact absurd hc (by decide))
    rw [time_body sec.natAbs (by omega) tail ht 1 _ (by rw [e]; simp [signL, hc'])]
    congr 1
    omega

/-! ### What is behind a time is an end of the text -/
theorem sixty_drop (l : List UInt8) : ∃ j, j ≤ l.length ∧ (sixtyL l).2.1 = l.drop j := by
  unfold sixtyL
  split
  · split
    · exact ⟨3, by simp, rfl⟩
    · exact ⟨0, by simp, rfl⟩
  · exact ⟨0, by simp, rfl⟩
theorem sign_drop (l : List UInt8) : ∃ j, j ≤ l.length ∧ (signL l).2 = l.drop j ∧ ((signL l).1 = 1 ∨ (signL l).1 = -1) := by
  unfold signL
  split
  · exact ⟨0, by simp, rfl, .inl rfl⟩
  · split
    · exact ⟨1, by simp, rfl, .inr rfl⟩
    · split
      · exact ⟨1, by simp, rfl, .inl rfl⟩
      · exact ⟨0, by simp, rfl, .inl rfl⟩
theorem time_drop (l : List UInt8) : ∃ j, j ≤ l.length ∧ (timeL l).2.1 = l.drop j ∧ ((timeL l).2.2 = true ↔ 0 < j) ∧ -604799 ≤ (timeL l).1 ∧ (timeL l).1 ≤ 604799 ∧ ((timeL l).2.2 = false → (timeL l).1 = 0 ∧ j = 0) := by
  obtain ⟨j0, h0, e0, hs⟩ := sign_drop l
  unfold timeL
  by_cases hd : dl (signL l).2 = 0
  · rw [if_pos hd]
    exact ⟨0, by omega, by simp, by simp, by simp, by simp, by simp⟩
  · rw [if_neg hd]
    obtain ⟨b1, b2, b3, b4⟩ := hour_bd (signL l).2
    have b4' := b4 hd
    have hdl := dl_le (signL l).2
    obtain ⟨j1, h1, e1⟩ := sixty_drop ((signL l).2.drop (hourL (signL l).2).2)
    have s1 := sixty_bd ((signL l).2.drop (hourL (signL l).2).2)
    have key : ∃ j2, j2 ≤ (sixtyL ((signL l).2.drop (hourL (signL l).2).2)).2.1.length ∧ (moreL (sixtyL ((signL l).2.drop (hourL (signL l).2).2))).2.1 = (sixtyL ((signL l).2.drop (hourL (signL l).2).2)).2.1.drop j2 ∧
        0 ≤ (moreL (sixtyL ((signL l).2.drop (hourL (signL l).2).2))).1 ∧ (moreL (sixtyL ((signL l).2.drop (hourL (signL l).2).2))).1 ≤ 59 := by
      unfold moreL
      split
      · obtain ⟨j2, h2, e2⟩ := sixty_drop (sixtyL ((signL l).2.drop (hourL (signL l).2).2)).2.1
        exact ⟨j2, h2, e2, sixty_bd _⟩
      · exact ⟨0, by omega, rfl, by simp, by simp⟩
    obtain ⟨j2, h2, e2, hb1, hb2⟩ := key
    rw [e2, e1, e0, List.drop_drop, List.drop_drop, List.drop_drop]
    rw [e1] at h2
    rw [e0] at h1 h2 hdl b2
    simp only [List.length_drop] at h1 h2 hdl
    rw [e0] at b4' b3 s1 hb1 hb2
    refine ⟨_, ?_, rfl, ?_, ?_⟩
    · omega
    · simp; omega
    · generalize (sixtyL (List.drop (hourL (List.drop j0 l)).2 (List.drop j0 l))).1 = x at *
      generalize (moreL (sixtyL (List.drop (hourL (List.drop j0 l)).2 (List.drop j0 l)))).1 = y at *
      rw [e0] at b1
      generalize (hourL (List.drop j0 l)).1 = v at *
      rcases hs with hs | hs <;> rw [hs] <;> refine ⟨?_, ?_, by simp⟩ <;> omega
end Go.Proofs.YtghjemcbkackjaaDoor.T
