/- FaultTells over numbers and lists: texts, errors, and which fault is first, as the document's answer has them. -/
import Derived.Test.YtghjemcbkackjaaDoorStFaultTells
import Derived.Test.YtghjemcbkackjaaDoorPFault
namespace Go.Proofs.YtghjemcbkackjaaDoor.Pure
open Go.RowKit Go.Proofs.YtghjemcbkackjaaDoorW.PrintWords Go.Proofs.YtghjemcbkackjaaDoor.F Go.Proofs.YtghjemcbkackjaaDoor.Q Go.Proofs.YtghjemcbkackjaaDoor.T
set_option linter.unusedVariables false
set_option linter.unusedSimpArgs false
theorem one_digit (n : Nat) (h : n < 10) : strOfNums [(wrap64 (48 + (n : Int))) % 256] = S [UInt8.ofNat (48 + n)] := by
  have e : (wrap64 (48 + (n : Int))) % 256 = ((48 + n : Nat) : Int) := by rw [wrap_in _ (by omega) (by omega)]; omega
  rw [e]; rfl
theorem dec_nat : ∀ (m n k : Nat), n < 10 ^ (m + 1) → n ≤ 9223372036854775807 → m ≤ 19 → m ≤ k → epactref08_decimals.f (k + 1) (n : Int) = some (S (digsN (m + 1) n))
  | 0, n, k, hn, _, _, hk => by
    simp only [epactref08_decimals.f]
    have e2 : Int.tmod (n : Int) 10 = (n : Int) := by rw [Int.tmod_eq_emod_of_nonneg (by omega)]; omega
    rw [if_neg (by omega), e2]
    simp only [Option.bind_some]
    rw [if_pos (by omega), one_digit n (by omega), digsN, if_pos (by omega)]
  | m + 1, n, k, hn, h64, hm, hk => by
    obtain ⟨k, rfl⟩ : ∃ j, k = j + 1 := ⟨k - 1, by omega⟩
    rw [epactref08_decimals.f]
    have e1 : wrap64 (Int.tdiv (n : Int) 10) = ((n / 10 : Nat) : Int) := by
      rw [Int.tdiv_eq_ediv_of_nonneg (by omega), wrap_in _ (by omega) (by omega)]; rfl
    have e2 : Int.tmod (n : Int) 10 = ((n % 10 : Nat) : Int) := by rw [Int.tmod_eq_emod_of_nonneg (by omega)]; rfl
    rw [if_neg (by omega), e1, e2]
    simp only [Option.bind_some]
    rw [one_digit _ (by omega), digsN]
    by_cases h : n < 10
    · rw [if_pos (by omega), if_pos h, Nat.mod_eq_of_lt h]
    · have hl := digsN_le (m + 1) (n / 10)
      rw [if_neg (by omega), if_neg h, dec_nat m (n / 10) k (by rw [Nat.pow_succ] at hn; omega) (by omega) (by omega) (by omega)]
      simp only [Option.bind_some]
      rw [S_size, S_size, if_pos (by simp; omega), S_append]
theorem digs_one (m n : Nat) (h : n < 10) : digsN (m + 1) n = [UInt8.ofNat (48 + n)] := by rw [digsN, if_pos h]
theorem digs_more (m n : Nat) (h : ¬ n < 10) : digsN (m + 1) n = digsN m (n / 10) ++ [UInt8.ofNat (48 + n % 10)] := by rw [digsN, if_neg h]
theorem dec_neg : ∀ (m n k : Nat), 0 < n → n < 10 ^ (m + 1) → n ≤ 9223372036854775808 → m ≤ 19 → m + 1 ≤ k → epactref08_decimals.f (k + 1) (-(n : Int)) = some (S (45 :: digsN (m + 1) n))
  | m, n, k, h0, hn, h64, hm, hk => by
    obtain ⟨k, rfl⟩ : ∃ j, k = j + 1 := ⟨k - 1, by omega⟩
    rw [epactref08_decimals.f, if_pos (by omega)]
    by_cases h : n < 10
    · have e0 : wrap64 (-(-(n : Int))) = (n : Int) := by rw [wrap_in _ (by omega) (by omega)]; omega
      rw [if_pos (by omega), e0, dec_nat 0 n k (by omega) (by omega) (by omega) (by omega)]
      simp only [Option.bind_some]
      rw [digs_one 0 n h, digs_one m n h, S_size, if_pos (by simp), show (⟨#[45]⟩ : ByteArray) = S [45] from rfl, S_append]
      rfl
    · match m, hn, hm, hk with
      | 0, hn, _, _ => omega
      | m + 1, hn, hm, hk =>
        have e1 : wrap64 (Int.tdiv (-(n : Int)) 10) = -((n / 10 : Nat) : Int) := by
          rw [Int.neg_tdiv, Int.tdiv_eq_ediv_of_nonneg (by omega), wrap_in _ (by omega) (by omega)]; rfl
        have e2 : wrap64 (-(Int.tmod (-(n : Int)) 10)) = ((n % 10 : Nat) : Int) := by
          rw [Int.neg_tmod, Int.tmod_eq_emod_of_nonneg (by omega), wrap_in _ (by omega) (by omega)]; omega
        have hl := digsN_le (m + 1) (n / 10)
        have hl1 := digsN_le 1 (n % 10)
        rw [if_neg (by omega), e1, e2, dec_neg m (n / 10) k (by omega) (by rw [Nat.pow_succ] at hn; omega) (by omega) (by omega) (by omega), dec_nat 0 (n % 10) k (by omega) (by omega) (by omega) (by omega)]
        simp only [Option.bind_some]
        rw [digs_one 0 (n % 10) (by omega), digs_more (m + 1) n h, S_size, S_size, if_pos (by simp; omega), S_append]
        rfl
theorem dec_eq (l : Int) (hl : (Lit.int .i64 l).wf = true) (k : Nat) (hk : 20 ≤ k) : epactref08_decimals.f (k + 1) l = some (S (itoaK l)) := by
  have hb := wfb hl
  unfold itoaK
  by_cases h : l < 0
  · rw [if_pos h]
    have e : l = -((l.natAbs : Nat) : Int) := by omega
    conv => lhs; rw [e]
    exact dec_neg 19 l.natAbs k (by omega) (by omega) (by omega) (by omega) (by omega)
  · rw [if_neg h]
    have e : l = ((l.toNat : Nat) : Int) := by omega
    conv => lhs; rw [e]
    exact dec_nat 19 l.toNat k (by omega) (by omega) (by omega) (by omega)
theorem words_at : ∀ c, c < 12 → 1 ≤ c → ([(⟨#[97, 114, 103, 117, 109, 101, 110, 116]⟩ : ByteArray), (⟨#[102, 111, 114, 109]⟩ : ByteArray), (⟨#[104, 97, 115, 104]⟩ : ByteArray), (⟨#[111, 114, 100, 101, 114]⟩ : ByteArray), (⟨#[101, 110, 100]⟩ : ByteArray), (⟨#[115, 116, 101, 112]⟩ : ByteArray), (⟨#[103, 97, 112]⟩ : ByteArray), (⟨#[111, 118, 101, 114]⟩ : ByteArray), (⟨#[114, 97, 110, 103, 101]⟩ : ByteArray), (⟨#[101, 120, 112, 105, 114, 101, 100]⟩ : ByteArray), (⟨#[110, 111, 32, 115, 117, 99, 104, 32, 115, 101, 99, 111, 110, 100]⟩ : ByteArray)] : List ByteArray).getD (c - 1) ByteArray.empty = S (wordL (c : Nat)) := by decide +kernel
theorem word_other (c : Int) (h : c < 1 ∨ 11 < c) : wordL c = [101, 114, 114, 111, 114] := by
  unfold wordL wordF
  rw [if_neg (by omega), if_neg (by omega), if_neg (by omega), if_neg (by omega), if_neg (by omega), if_neg (by omega), if_neg (by omega), if_neg (by omega), if_neg (by omega), if_neg (by omega), if_neg (by omega)]
theorem refText_eq (l c : Int) (hl : (Lit.int .i64 l).wf = true) (k : Nat) (hk : 20 ≤ k) : epactref08_Text.f (k + 1) l c = some (S (textL8 l c)) := by
  have h1 := itoaK_le l
  have h2 := word_len c
  unfold epactref08_Text.f
  rw [dec_eq l hl k hk]
  simp only [Option.bind_some]
  have fin : ∀ z : List UInt8, ((((⟨#[108, 105, 110, 101, 32]⟩ : ByteArray) ++ S (itoaK l)) ++ (⟨#[58, 32]⟩ : ByteArray)) ++ S z) = S ([108, 105, 110, 101, 32] ++ (itoaK l ++ (58 :: 32 :: z))) := by
    intro z
    rw [show (⟨#[108, 105, 110, 101, 32]⟩ : ByteArray) = S [108, 105, 110, 101, 32] from rfl, show (⟨#[58, 32]⟩ : ByteArray) = S [58, 32] from rfl, S_append, S_append, S_append]
    simp
  have other : c < 1 ∨ 11 < c → ((((⟨#[108, 105, 110, 101, 32]⟩ : ByteArray) ++ S (itoaK l)) ++ (⟨#[58, 32]⟩ : ByteArray)) ++ (⟨#[101, 114, 114, 111, 114]⟩ : ByteArray)) = S (textL8 l c) := by
    intro h
    rw [show (⟨#[101, 114, 114, 111, 114]⟩ : ByteArray) = S [101, 114, 114, 111, 114] from rfl, fin, textL8, word_other c h]
  rw [S_size]
  by_cases a : c ≥ 1
  · rw [if_pos a]
    by_cases b : c ≤ 11
    · rw [if_pos b]
      have e1 : wrap64 (c - 1) = c - 1 := wrap_in _ (by omega) (by omega)
      obtain ⟨n, rfl⟩ : ∃ n : Nat, c = (n : Int) := ⟨c.toNat, by omega⟩
      have hw := words_at n (by omega) (by omega)
      have e2 : ((n : Int) - 1).toNat = n - 1 := by omega
      rw [e1, if_pos (by omega), if_pos (by simp; omega)]
      unfold rdOf
      rw [e2, hw, S_size, if_pos (by omega), if_pos (by omega), if_pos (by omega), fin]
      rfl
    · rw [if_neg b, if_pos (by omega), if_pos (by omega), if_pos (by omega), other (Or.inr (by omega))]
  · rw [if_neg a, if_pos (by omega), if_pos (by omega), if_pos (by omega), other (Or.inl (by omega))]
theorem refFirstR_eq (xs : List S24) (hx : xs.length ≤ 9223372036854775806) : ∀ (d i k : Nat) (o : S24), i + d = xs.length → d + 1 ≤ k → epactref08_First.l0 k xs (i : Int) o.f0 o.f1 = some ((firstF (xs.drop i) o).f0, (firstF (xs.drop i) o).f1)
  | 0, i, k, o, hi, hk => by
    obtain ⟨k, rfl⟩ : ∃ j, k = j + 1 := ⟨k - 1, by omega⟩
    simp only [epactref08_First.l0]
    rw [if_neg (by omega), List.drop_eq_nil_of_le (by omega)]
    rfl
  | d + 1, i, k, o, hi, hk => by
    obtain ⟨k, rfl⟩ : ∃ j, k = j + 1 := ⟨k - 1, by omega⟩
    have hlt : i < xs.length := by omega
    simp only [epactref08_First.l0]
    rw [if_pos (by omega), if_pos (by omega), rd_at xs i hlt, List.drop_eq_getElem_cons hlt]
    have e1 : wrap64 ((i : Int) + 1) = ((i + 1 : Nat) : Int) := by rw [wrap_in _ (by omega) (by omega)]; omega
    rw [e1]
    have ih := fun o' => refFirstR_eq xs hx d (i + 1) k o' (by omega) (by omega)
    have e2 : firstF (xs[i] :: xs.drop (i + 1)) o = firstF (xs.drop (i + 1)) (stepF o xs[i]) := rfl
    rw [e2]
    unfold stepF
    by_cases h1 : xs[i].f1 = 0
    · rw [if_pos h1, if_pos h1]; exact ih o
    · rw [if_neg h1, if_neg h1]
      by_cases h2 : o.f1 = 0
      · rw [if_pos h2, if_pos h2]; exact ih xs[i]
      · rw [if_neg h2, if_neg h2]
        by_cases h3 : xs[i].f0 < o.f0
        · rw [if_pos h3, if_pos h3]; exact ih xs[i]
        · rw [if_neg h3, if_neg h3]; exact ih o
theorem refFirst_eq (xs : List S24) (k : Nat) (hk : xs.length + 1 ≤ k) (hx : xs.length ≤ 9223372036854775806) : epactref08_First.f k xs = some ((firstF xs ⟨0, 0⟩).f0, (firstF xs ⟨0, 0⟩).f1) := by
  unfold epactref08_First.f
  exact refFirstR_eq xs hx xs.length 0 k ⟨0, 0⟩ (by omega) (by omega)
theorem FaultTells : epactlaw08_FaultTells.PureG := by
  intro l c xs hl hc hxs
  refine ⟨xs.length + 30, ?_⟩
  unfold epactlaw08_FaultTells.f epactlaw08_smallF.f
  simp only [Option.bind_some]
  by_cases h : (xs.length : Int) > 100
  · rw [if_pos h]
  · rw [if_neg h, refText_eq l c hl (xs.length + 29) (by omega), new_eq l c hc, textF_eq l c hl, first_eq xs _ (by omega) (by omega), refFirst_eq xs _ (by omega) (by omega)]
    have hb := wfb hc
    by_cases h0 : c = 0
    · simp [h0]
    · simp [h0, eL_mk l c hb.1 hb.2, eC_mk l c hb.1 hb.2, error_eq l c hl]
end Go.Proofs.YtghjemcbkackjaaDoor.Pure
