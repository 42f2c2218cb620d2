/- What the rule chapter's printed functions compute, over lists of bytes. -/
import Derived.Test.YtghjemcbkackjaaDoorPS
import Derived.Test.YtghjemcbkackjaaDoorPx2
import Derived.Test.YtghjemcbkackjaaDoorPx3
namespace Go.Proofs.YtghjemcbkackjaaDoor.T
open Go.RowKit Go.Proofs.YtghjemcbkackjaaDoorW.PrintWords Go.Proofs.YtghjemcbkackjaaDoor.F Go.Proofs.YtghjemcbkackjaaDoor.P
set_option linter.unusedVariables false
set_option linter.unusedSimpArgs false

theorem within_eq (n a b : Int) : rule_within.f n a b = some (decide (a ≤ n ∧ n ≤ b)) := by
  unfold rule_within.f
  by_cases h : n ≥ a
  · rw [if_pos h]; simp; omega
  · rw [if_neg h]; simp; omega
theorem hasPrefix1 (c : UInt8) (l : List UInt8) : stringslite_HasPrefix.f (S l) (⟨#[c]⟩ : ByteArray) = some (l.head? == some c) := by
  unfold stringslite_HasPrefix.f
  have hc : ((⟨#[c]⟩ : ByteArray).size : Int) = 1 := rfl
  rw [hc, S_sizeI]
  cases l with
  | nil => rw [if_neg (by simp)]; rfl
  | cons a r =>
    rw [if_pos (by simp; omega), if_pos (by omega), if_pos (by simp; omega)]
    rw [show ((1 : Int) : Int).toNat = 1 from rfl, S_take, S_toList, show (⟨#[c]⟩ : ByteArray).toList = [c] from S_toList [c]]
    simp
theorem trimPrefix1 (c : UInt8) (l : List UInt8) : strings_TrimPrefix.f (S l) (⟨#[c]⟩ : ByteArray) = some (S (if l.head? = some c then l.tail else l)) := by
  unfold strings_TrimPrefix.f stringslite_TrimPrefix.f
  have hc : ((⟨#[c]⟩ : ByteArray).size : Int) = 1 := rfl
  rw [hasPrefix1, hc, S_sizeI]
  simp only [Option.bind_some]
  cases l with
  | nil => rfl
  | cons a r =>
    by_cases e : a = c
    · subst e
      rw [if_pos (by simp), if_pos (by omega), if_pos (by simp; omega), if_pos (by simp)]
      rw [show ((1 : Int) : Int).toNat = 1 from rfl, S_drop]
      rfl
    · rw [if_neg (by simpa using e), if_neg (by simpa using e)]; rfl

/-- What stands behind a colon: minutes, or seconds. -/
def sixtyL : List UInt8 → Int × List UInt8 × Bool
  | c :: a :: b :: r => if c = 58 ∧ isDig a = true ∧ isDig b = true ∧ a.toNat ≤ 53 then (10 * (a.toNat - 48) + (b.toNat - 48), r, true) else (0, c :: a :: b :: r, false)
  | l => (0, l, false)
theorem sixty_eq (l : List UInt8) (hl : l.length ≤ 140737488351232) : rule_sixty.f (S l) = some ((sixtyL l).1, S (sixtyL l).2.1, (sixtyL l).2.2) := by
  unfold rule_sixty.f
  rw [S_sizeI]
  match l, hl with
  | [], _ => rfl
  | [_], _ => rfl
  | [_, _], _ => rfl
  | c :: a :: b :: r, hl =>
    have hlen : (c :: a :: b :: r).length = r.length + 3 := rfl
    rw [if_neg (by rw [hlen]; omega), if_pos (by rw [hlen]; omega), S_bt0]
    unfold sixtyL
    by_cases hc : c = 58
    · subst hc
      rw [if_pos (by rfl), if_pos (by rw [hlen]; omega), S_drop, List.drop_succ_cons, List.drop_zero, rule_digits_S _ (by simp at hl ⊢; omega)]
      simp only [Option.bind_some]
      rw [dl_cons, dl_cons, S_bt1]
      by_cases ha : isDig a = true
      · by_cases hb : isDig b = true
        · rw [if_pos ha, if_pos hb, if_neg (by omega), if_pos (by rw [hlen]; omega)]
          by_cases h5 : a.toNat ≤ 53
          · rw [if_neg (by omega), if_pos (by omega), if_pos (by rw [hlen]; omega), if_pos ⟨trivial, ha, hb, h5⟩]
            rw [S_extract]
            simp only [Nat.reduceSub, List.drop_succ_cons, List.drop_zero, List.take_succ_cons, List.take_zero]
            rw [strconv_Atoi_S [a, b] (by simp) (by simp [ha, hb]) (by simp)]
            simp only [Option.bind_some]
            rw [S_drop]
            simp only [List.drop_succ_cons, List.drop_zero, Option.some.injEq, Prod.mk.injEq, and_true]
            unfold isDig at ha hb
            simp at ha hb
            simp [valL]
            omega
          · rw [if_pos (by omega), if_neg (by rintro ⟨_, _, _, h⟩; exact h5 h)]
        · rw [if_pos ha, if_neg hb, if_pos (by omega), if_neg (by rintro ⟨_, _, h, _⟩; exact hb h)]
      · rw [if_neg ha, if_pos (by omega), if_neg (by rintro ⟨_, h, _⟩; exact ha h)]
    · rw [if_neg (fun h => hc (u8_eq (by simpa using Int.ofNat_inj.1 h)))]
      simp [hc]

theorem foldl_lt : ∀ (l : List UInt8) (acc : Nat), (∀ c ∈ l, isDig c = true) → l.foldl (fun n c => 10 * n + (c.toNat - 48)) acc < (acc + 1) * 10 ^ l.length
  | [], acc, _ => by simp
  | c :: l, acc, h => by
    have hc : isDig c = true := h c (by simp)
    unfold isDig at hc
    simp at hc
    have := foldl_lt l (10 * acc + (c.toNat - 48)) (fun c' hc' => h c' (by simp [hc']))
    rw [List.foldl_cons, List.length_cons, Nat.pow_succ]
    refine Nat.lt_of_lt_of_le this ?_
    have h1 : (10 * acc + (c.toNat - 48) + 1) ≤ (acc + 1) * 10 := by omega
    calc (10 * acc + (c.toNat - 48) + 1) * 10 ^ l.length ≤ ((acc + 1) * 10) * 10 ^ l.length := Nat.mul_le_mul_right _ h1
      _ = (acc + 1) * (10 ^ l.length * 10) := by rw [Nat.mul_assoc, Nat.mul_comm 10]
theorem valL_lt (l : List UInt8) (h : ∀ c ∈ l, isDig c = true) : valL l < 10 ^ l.length := by
  have := foldl_lt l 0 h
  simpa [valL] using this
theorem sixty_bd (l : List UInt8) : 0 ≤ (sixtyL l).1 ∧ (sixtyL l).1 ≤ 59 := by
  unfold sixtyL
  split
  · split
    · rename_i h
      obtain ⟨_, ha, hb, h5⟩ := h
      unfold isDig at ha hb
      simp at ha hb
      simp only []
      omega
    · simp
  · simp
theorem sixty_len (l : List UInt8) : (sixtyL l).2.1.length ≤ l.length := by
  unfold sixtyL
  split
  · split
    · simp; omega
    · simp
  · simp

/-- A time. -/
def signL : List UInt8 → Int × List UInt8
  | [] => (1, [])
  | c :: r => if c = 45 then (-1, r) else if c = 43 then (1, r) else (1, c :: r)
def hourL (t : List UInt8) : Nat × Nat :=
  if valL (t.take (min (dl t) 3)) > 167 then (valL (t.take (min (dl t) 3)) / 10, min (dl t) 3 - 1) else (valL (t.take (min (dl t) 3)), min (dl t) 3)
def moreL (p : Int × List UInt8 × Bool) : Int × List UInt8 × Bool := if p.2.2 = true then sixtyL p.2.1 else (0, p.2.1, false)
def timeL (l : List UInt8) : Int × List UInt8 × Bool :=
  if dl (signL l).2 = 0 then (0, l, false)
  else
    ((signL l).1 * ((hourL (signL l).2).1 * 3600 + (sixtyL ((signL l).2.drop (hourL (signL l).2).2)).1 * 60 + (moreL (sixtyL ((signL l).2.drop (hourL (signL l).2).2))).1),
      (moreL (sixtyL ((signL l).2.drop (hourL (signL l).2).2))).2.1, true)
theorem more_eq (p : Int × List UInt8 × Bool) (hl : p.2.1.length ≤ 140737488351232) : rule_more.f (S p.2.1) p.2.2 = some ((moreL p).1, S (moreL p).2.1, (moreL p).2.2) := by
  unfold rule_more.f moreL
  split
  · rw [sixty_eq _ hl]; rfl
  · rfl
theorem hour_bd (t : List UInt8) : (hourL t).1 ≤ 167 ∧ (hourL t).2 ≤ dl t ∧ (hourL t).2 ≤ 3 ∧ (dl t ≠ 0 → 1 ≤ (hourL t).2) := by
  have hv : valL (t.take (min (dl t) 3)) < 10 ^ (t.take (min (dl t) 3)).length := valL_lt _ (take_dl_dig t _ (Nat.min_le_left _ _))
  have hl : (t.take (min (dl t) 3)).length ≤ 3 := by rw [List.length_take]; omega
  have h3 : 10 ^ (t.take (min (dl t) 3)).length ≤ 10 ^ 3 := Nat.pow_le_pow_right (by omega) hl
  have hm : min (dl t) 3 ≤ dl t := Nat.min_le_left _ _
  have hm3 : min (dl t) 3 ≤ 3 := Nat.min_le_right _ _
  unfold hourL
  split
  · rename_i hgt
    refine ⟨by simp only []; omega, by simp only []; omega, by simp only []; omega, fun h0 => ?_⟩
    simp only []
    have : ¬ (t.take (min (dl t) 3)).length ≤ 1 := fun h1 => by
      have : 10 ^ (t.take (min (dl t) 3)).length ≤ 10 ^ 1 := Nat.pow_le_pow_right (by omega) h1
      omega
    rw [List.length_take] at this
    omega
  · refine ⟨by simp only []; omega, by simp only []; omega, by simp only []; omega, fun h0 => by simp only []; omega⟩
theorem mn_nat (a : Nat) : mn (a : Int) 3 = ((min a 3 : Nat) : Int) := by
  unfold mn; omega
theorem timeJ_eq (k : Nat) (l t : List UInt8) (sg : Int) (hsg : sg = 1 ∨ sg = -1) (hl : t.length ≤ 140737488351232) (h : (signL l) = (sg, t)) :
    rule_Time.j0 (k + 1) (S l) (S t) sg = some ((timeL l).1, S (timeL l).2.1, (timeL l).2.2) := by
  have hd := dl_le t
  simp only [rule_Time.j0]
  rw [rule_digits_S _ (by omega)]
  simp only [Option.bind_some]
  rw [mn_nat]
  unfold timeL
  rw [h]
  by_cases h0 : dl t = 0
  · rw [if_pos (by omega), if_pos h0]
  · obtain ⟨hb1, hb2, hb3, hb4⟩ := hour_bd t
    rw [if_neg (by omega), if_neg h0, if_pos (by omega), S_sizeI, if_pos (by omega), Int.toNat_natCast, S_take]
    have hdig := take_dl_dig t (min (dl t) 3) (Nat.min_le_left _ _)
    have hlen : (t.take (min (dl t) 3)).length = min (dl t) 3 := by rw [List.length_take]; omega
    rw [strconv_Atoi_S _ (fun e => by rw [e] at hlen; simp at hlen; omega) hdig (by omega)]
    simp only [Option.bind_some]
    by_cases hg : valL (t.take (min (dl t) 3)) > 167
    · have hh : hourL t = (valL (t.take (min (dl t) 3)) / 10, min (dl t) 3 - 1) := by unfold hourL; rw [if_pos hg]
      rw [hh] at hb1 hb2 hb3 hb4 ⊢
      simp only [] at hb1 hb2 hb3 hb4 ⊢
      have hb4' := hb4 h0
      have e1 : wrap64 (((min (dl t) 3 : Nat) : Int) - 1) = ((min (dl t) 3 - 1 : Nat) : Int) := by rw [wrap_in _ (by omega) (by omega)]; omega
      rw [if_pos (by omega), e1, if_pos (by omega), if_pos (by omega), Int.toNat_natCast, S_drop, sixty_eq _ (by rw [List.length_drop]; omega)]
      simp only [Option.bind_some]
      have hs := sixty_bd (t.drop (min (dl t) 3 - 1))
      have hsl := sixty_len (t.drop (min (dl t) 3 - 1))
      rw [List.length_drop] at hsl
      rw [more_eq _ (by omega)]
      simp only [Option.bind_some]
      have hm : 0 ≤ (moreL (sixtyL (t.drop (min (dl t) 3 - 1)))).1 ∧ (moreL (sixtyL (t.drop (min (dl t) 3 - 1)))).1 ≤ 59 := by
        unfold moreL; split
        · exact sixty_bd _
        · simp
      have e2 : Int.tdiv (valL (t.take (min (dl t) 3)) : Int) 10 = ((valL (t.take (min (dl t) 3)) / 10 : Nat) : Int) := by rw [Int.tdiv_eq_ediv_of_nonneg (by omega)]; rfl
      rw [e2]
      generalize valL (t.take (min (dl t) 3)) / 10 = v at *
      generalize (sixtyL (t.drop (min (dl t) 3 - 1))).1 = a at *
      generalize (moreL (sixtyL (t.drop (min (dl t) 3 - 1)))).1 = b at *
      rw [wrap_in (v : Int) (by omega) (by omega), wrap_in ((v : Int) * 3600) (by omega) (by omega), wrap_in (a * 60) (by omega) (by omega), wrap_in (_ + a * 60) (by omega) (by omega), wrap_in (_ + b) (by omega) (by omega)]
      rcases hsg with rfl | rfl
      · rw [wrap_in _ (by omega) (by omega)]
      · rw [wrap_in _ (by omega) (by omega)]
    · have hh : hourL t = (valL (t.take (min (dl t) 3)), min (dl t) 3) := by unfold hourL; rw [if_neg hg]
      rw [hh] at hb1 hb2 hb3 hb4 ⊢
      simp only [] at hb1 hb2 hb3 hb4 ⊢
      rw [if_neg (by omega), S_drop, sixty_eq _ (by rw [List.length_drop]; omega)]
      simp only [Option.bind_some]
      have hs := sixty_bd (t.drop (min (dl t) 3))
      have hsl := sixty_len (t.drop (min (dl t) 3))
      rw [List.length_drop] at hsl
      rw [more_eq _ (by omega)]
      simp only [Option.bind_some]
      have hm : 0 ≤ (moreL (sixtyL (t.drop (min (dl t) 3)))).1 ∧ (moreL (sixtyL (t.drop (min (dl t) 3)))).1 ≤ 59 := by
        unfold moreL; split
        · exact sixty_bd _
        · simp
      generalize valL (t.take (min (dl t) 3)) = v at *
      generalize (sixtyL (t.drop (min (dl t) 3))).1 = a at *
      generalize (moreL (sixtyL (t.drop (min (dl t) 3)))).1 = b at *
      rw [wrap_in ((v : Int) * 3600) (by omega) (by omega), wrap_in (a * 60) (by omega) (by omega), wrap_in (_ + a * 60) (by omega) (by omega), wrap_in (_ + b) (by omega) (by omega)]
      rcases hsg with rfl | rfl
      · rw [wrap_in _ (by omega) (by omega)]
      · rw [wrap_in _ (by omega) (by omega)]
theorem time_eq (k : Nat) (l : List UInt8) (hl : l.length ≤ 140737488351232) : rule_Time.f (k + 1) (S l) = some ((timeL l).1, S (timeL l).2.1, (timeL l).2.2) := by
  unfold rule_Time.f
  rw [trimPrefix1]
  simp only [Option.bind_some]
  rw [S_sizeI, S_sizeI]
  match l, hl with
  | [], _ => exact timeJ_eq k [] [] 1 (.inl rfl) (by simp) rfl
  | c :: r, hl =>
    by_cases hc : c = 45
    · subst hc
      rw [if_neg (by simp; omega)]
      exact timeJ_eq k (45 :: r) r (-1) (.inr rfl) (by simp at hl; omega) rfl
    · have hc' : ¬ (c :: r).head? = some 45 := by simpa using hc
      rw [if_neg hc', if_pos rfl, trimPrefix1]
      simp only [Option.bind_some]
      by_cases hp : c = 43
      · subst hp
        exact timeJ_eq k (43 :: r) r 1 (.inl rfl) (by simp at hl; omega) rfl
      · rw [if_neg (by simpa using hp)]
        exact timeJ_eq k (c :: r) (c :: r) 1 (.inl rfl) hl (by simp [signL, hc, hp])
end Go.Proofs.YtghjemcbkackjaaDoor.T
