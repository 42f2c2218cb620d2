/- What the functions come to in plain data, with proofs, and what that answers. -/
import Derived.Test.YtodmkipcgfodkaaGreatDoorJLocalUtc1
section
set_option linter.unusedVariables false
set_option linter.unusedSimpArgs false
namespace Go.Proofs.YtodmkipcgfodkaaGreatDoor
open Go Go.Proofs.YtodmkipcgfodkaaGreatDoor.Eng Go.Proofs.YtodmkipcgfodkaaGreatDoor.Pl
set_option linter.unusedVariables false
set_option linter.unusedSimpArgs false
theorem dl_of (l : List UInt8) (k : Nat) (hk : k ≤ l.length) (h1 : ∀ c ∈ l.take k, isDig c = true) (h2 : ∀ h : k < l.length, isDig l[k] = false) : dl l = k := by
  have := nl_of (fun c => !isDig c) l k hk (fun c hc => by simp [h1 c hc]) (fun h => by simp [h2 h])
  rw [← this]; unfold nl dl; simp
theorem sdigits (l : List UInt8) {K} (h : K (dl l : Int)) : Xrule_digits (S l) K := by
  unfold Xrule_digits Yrule_digits
  refine lp_ind (fun st => l.length - st.2.1.2) (fun st => st.1.1 = S l ∧ st.2.1.1 = S l ∧ st.2.1.2 ≤ l.length ∧ ∀ c ∈ l.take st.2.1.2, isDig c = true) ?_ ⟨rfl, rfl, Nat.zero_le _, by simp⟩
  rintro ⟨⟨a0, r, _, _⟩, ⟨s, pos⟩, _⟩ ⟨h1, h2, h3, h4⟩ k hk
  simp only at h1 h2 h3 h4 hk
  subst h1; subst h2
  unfold Lrule_digits_0
  simp only [S_size, decide_eq_true_eq, gt_iff_lt]
  refine ifC (fun hp => ?_) fun hp => ?_
  · by_cases hlo : l[pos].toNat < 128
    · simp only [decode_lo l pos hp hlo]
      by_cases hd : isDig l[pos] = true
      · have hd' := hd
        unfold isDig at hd'
        simp at hd'
        refine ifF (by omega) (ifF (by omega) ?_)
        refine hk _ ⟨rfl, rfl, hp, fun c hc => ?_⟩ (by simp only; omega)
        rw [List.take_add_one, List.mem_append] at hc
        rcases hc with hc | hc
        · exact h4 c hc
        · simp [List.getElem?_eq_getElem hp] at hc
          subst hc; exact hd
      · have hn : dl l = pos := dl_of l pos h3 h4 fun _ => by simpa using hd
        have hd' := hd
        unfold isDig at hd'
        simp at hd'
        rw [hn] at h
        exact ifC (fun _ => h) fun _ => ifT (by omega) h
    · obtain ⟨d1, d2⟩ := decode_hi l pos hp (by omega)
      have hn : dl l = pos := dl_of l pos h3 h4 fun _ => by unfold isDig; simp; omega
      rw [hn] at h
      exact ifF (by omega) (ifT (by omega) h)
  · have hpos : pos = l.length := by omega
    have hn : dl l = l.length := dl_of l _ (Nat.le_refl _) (by rw [← hpos]; exact h4) fun h => by omega
    rw [hn] at h; exact h
theorem satoi (l : List UInt8) (hne : l ≠ []) (hd : ∀ c ∈ l, isDig c = true) (hl : l.length ≤ 18) {K} (h : K (valL l : Int) .nilIface) : Xatoi (S l) K :=
  ⟨_, by rw [S_size]; exact hl, by rw [S_data]; exact atoi_val l hne hd, h⟩
theorem sitoa (n : Int) (h0 : -9223372036854775808 ≤ n) (h1 : n ≤ 9223372036854775807) {K} (h : K (S (itoaK n))) : Xitoa n K :=
  ⟨⟨h0, h1⟩, by rw [← itoaK_eq n h0 h1]; exact h⟩
theorem ssixty (l : List UInt8) {K} (h : K (sixtyL l).1 (S (sixtyL l).2.1) (sixtyL l).2.2) : Xrule_sixty (S l) K := by
  unfold Xrule_sixty Yrule_sixty
  simp only [S_size, S_extract, decide_eq_true_eq, gt_iff_lt, bne_iff_ne, ne_eq]
  match l, h with
  | [], h => exact ifT (by simp) h
  | [_], h => exact ifT (by simp) h
  | [_, _], h => exact ifT (by simp) h
  | c :: a :: b :: r, h =>
    have hlen : (c :: a :: b :: r).length = r.length + 3 := rfl
    rw [hlen]
    refine ifF (by omega) (ifT (by omega) ?_)
    rw [bAt0, bAt1]
    simp only [sixtyL] at h
    by_cases hc : c = 58
    · subst hc
      refine ifF (by simp) (ifT (by omega) (ifT (by omega) ?_))
      have e1 : ((58 :: a :: b :: r).drop 1).take (Int.toNat ((r.length + 3 : Nat) : Int) - 1) = a :: b :: r := by
        rw [List.drop_succ_cons, List.drop_zero, List.take_of_length_le (by simp; omega)]
      rw [e1]
      refine sdigits _ ?_
      rw [dl_cons, dl_cons]
      by_cases ha : isDig a = true
      · by_cases hb : isDig b = true
        · rw [if_pos ha, if_pos hb]
          refine ifF (by omega) (ifT (by omega) ?_)
          by_cases h5 : a.toNat ≤ 53
          · rw [if_pos ⟨rfl, ha, hb, h5⟩] at h
            refine ifF (by omega) (ifT (by omega) ?_)
            have e2 : ((58 :: a :: b :: r).drop 1).take (3 - 1) = [a, b] := rfl
            rw [e2]
            refine satoi [a, b] (by simp) (by simp [ha, hb]) (by simp) (ifT (by omega) (ifT (by omega) ?_))
            have e3 : ((58 :: a :: b :: r).drop 3).take (Int.toNat ((r.length + 3 : Nat) : Int) - 3) = r := by
              rw [show (58 :: a :: b :: r).drop 3 = r from rfl, List.take_of_length_le (by omega)]
            rw [e3]
            unfold isDig at ha hb
            simp at ha hb
            have e4 : (valL [a, b] : Int) = 10 * (a.toNat - 48) + (b.toNat - 48) := by simp [valL]; omega
            rw [e4]; exact h
          · rw [if_neg (by rintro ⟨_, _, _, h⟩; exact h5 h)] at h
            exact ifT (by omega) h
        · rw [if_neg (by rintro ⟨_, _, h, _⟩; exact hb h)] at h
          rw [if_pos ha, if_neg hb]
          exact ifT (by omega) h
      · rw [if_neg (by rintro ⟨_, h, _⟩; exact ha h)] at h
        rw [if_neg ha]
        exact ifT (by omega) h
    · rw [if_neg (by rintro ⟨h, _⟩; exact hc h)] at h
      refine ifT (fun h => hc (u8_eq ?_)) h
      have : c.toNat = 58 := by omega
      exact this
theorem smore (p : Int × List UInt8 × Bool) {K} (h : K (moreL p).1 (S (moreL p).2.1) (moreL p).2.2) : Xrule_more (S p.2.1) p.2.2 K := by
  unfold Xrule_more Yrule_more
  unfold moreL at h
  by_cases e : p.2.2 = true
  · rw [if_pos e] at h
    exact ifF (by simp [e]) (ssixty _ h)
  · rw [if_neg e] at h
    exact ifT (by simpa using e) h
theorem more_bd (t : List UInt8) : 0 ≤ (moreL (sixtyL t)).1 ∧ (moreL (sixtyL t)).1 ≤ 59 := by
  unfold moreL; split
  · exact sixty_bd _
  · simp
theorem stime (l : List UInt8) (hl : l.length ≤ 140737488351232) {K} (h : K (timeL l).1 (S (timeL l).2.1) (timeL l).2.2) : Xrule_Time (S l) K := by
  unfold Xrule_Time Yrule_Time
  have key : ∀ (t : List UInt8) (sg : Int), (sg = 1 ∨ sg = -1) → t.length ≤ l.length → signL l = (sg, t) →
      (dl t = 0 → K 0 (S l) false) ∧ (dl t ≠ 0 → ∃ v k : Nat, hourL t = (v, k) ∧ v ≤ 167 ∧ 1 ≤ k ∧ k ≤ dl t ∧ k ≤ 3 ∧
        K (sg * ((v : Int) * 3600 + (sixtyL (t.drop k)).1 * 60 + (moreL (sixtyL (t.drop k))).1)) (S (moreL (sixtyL (t.drop k))).2.1) true) := by
    intro t sg hsg ht he
    unfold timeL at h
    rw [he] at h
    refine ⟨fun h0 => by rw [if_pos h0] at h; exact h, fun h0 => ?_⟩
    rw [if_neg h0] at h
    obtain ⟨b1, b2, b3, b4⟩ := hour_bd t
    exact ⟨_, _, rfl, b1, b4 h0, b2, b3, h⟩
  have mn : ∀ t : List UInt8, (if (3 : Int) < (dl t : Int) then (3 : Int) else (dl t : Int)) = ((min (dl t) 3 : Nat) : Int) := fun t => by split <;> omega
  have hval : ∀ t : List UInt8, dl t ≠ 0 → ∀ {K : Int → Value → Prop}, K (valL (t.take (min (dl t) 3)) : Int) .nilIface → Xatoi (S ((t.drop 0).take (Int.toNat ((min (dl t) 3 : Nat) : Int) - 0))) K := fun t h0 K hK => by
    rw [List.drop_zero, Nat.sub_zero, Int.toNat_natCast]
    have hlen : (t.take (min (dl t) 3)).length = min (dl t) 3 := by rw [List.length_take]; have := dl_le t; omega
    exact satoi _ (fun e => by rw [e] at hlen; simp at hlen; omega) (take_dl_dig t _ (Nat.min_le_left _ _)) (by omega) hK
  have tdiv : ∀ v : Nat, Int.tdiv (v : Int) 10 = ((v / 10 : Nat) : Int) := fun v => by rw [Int.tdiv_eq_ediv_of_nonneg (by omega)]; rfl
  have fin : ∀ (t : List UInt8) (k : Nat), (t.drop k).take (t.length - k) = t.drop k := fun t k => List.take_of_length_le (by simp)
  refine sTrimPrefix l 45 ?_
  by_cases h45 : l.head? = some 45
  · obtain ⟨t, rfl⟩ : ∃ t, l = 45 :: t := by cases l with
      | nil => simp at h45
      | cons a t => simp at h45; subst h45; exact ⟨t, rfl⟩
    have e : (cutP 45 (45 :: t)).1 = t := rfl
    rw [e]
    obtain ⟨k1, k2⟩ := key t (-1) (.inr rfl) (by simp) rfl
    have hdl := dl_le t
    simp only [S_size, S_extract, beq_iff_eq, decide_eq_true_eq, gt_iff_lt]
    simp only [List.length_cons] at hl ⊢
    refine ifF (by omega) (sdigits _ ?_)
    rw [mn]
    refine ifC (fun h0 => k1 (by omega)) fun h0 => ?_
    have h0' : dl t ≠ 0 := by omega
    obtain ⟨v, kk, hh, b1, b2, b3, b4, hK⟩ := k2 h0'
    refine ifT (by omega) (ifT (by omega) (hval t h0' ?_))
    unfold hourL at hh
    by_cases hg : valL (t.take (min (dl t) 3)) > 167
    · rw [if_pos hg] at hh
      obtain ⟨rfl, rfl⟩ : _ = v ∧ _ = kk := by simpa using hh
      refine ifT (by omega) (ifT (by omega) ?_)
      rw [w64_in (n := ((min (dl t) 3 : Nat) : Int) - 1) (by omega) (by omega), show ((min (dl t) 3 : Nat) : Int) - 1 = ((min (dl t) 3 - 1 : Nat) : Int) by omega]
      refine ifT (by omega) ?_
      simp only [lt, Int.toNat_natCast, fin, tdiv]
      refine ssixty _ (smore _ ?_)
      have hs := sixty_bd (t.drop (min (dl t) 3 - 1))
      have hm := more_bd (t.drop (min (dl t) 3 - 1))
      generalize valL (t.take (min (dl t) 3)) / 10 = v at *
      generalize (sixtyL (t.drop (min (dl t) 3 - 1))).1 = a at *
      generalize (moreL (sixtyL (t.drop (min (dl t) 3 - 1)))).1 = b at *
      rw [w64_in (n := (v : Int)) (by omega) (by omega), w64_in (n := (v : Int) * 3600) (by omega) (by omega), w64_in (n := a * 60) (by omega) (by omega), w64_in (n := (v : Int) * 3600 + a * 60) (by omega) (by omega), w64_in (n := (v : Int) * 3600 + a * 60 + b) (by omega) (by omega), w64_in (by omega) (by omega)]
      exact hK
    · rw [if_neg hg] at hh
      obtain ⟨rfl, rfl⟩ : _ = v ∧ _ = kk := by simpa using hh
      refine ifF (by omega) (ifT (by omega) (ifT (by omega) ?_))
      simp only [lt, Int.toNat_natCast, fin]
      refine ssixty _ (smore _ ?_)
      have hs := sixty_bd (t.drop (min (dl t) 3))
      have hm := more_bd (t.drop (min (dl t) 3))
      generalize valL (t.take (min (dl t) 3)) = v at *
      generalize (sixtyL (t.drop (min (dl t) 3))).1 = a at *
      generalize (moreL (sixtyL (t.drop (min (dl t) 3)))).1 = b at *
      rw [w64_in (n := (v : Int) * 3600) (by omega) (by omega), w64_in (n := a * 60) (by omega) (by omega), w64_in (n := (v : Int) * 3600 + a * 60) (by omega) (by omega), w64_in (n := (v : Int) * 3600 + a * 60 + b) (by omega) (by omega), w64_in (by omega) (by omega)]
      exact hK
  · have e : (cutP 45 l).1 = l := by unfold cutP; rw [if_neg h45]
    rw [e]
    refine ifT (by simp) (sTrimPrefix l 43 ?_)
    have hs : ∃ t, signL l = (1, t) ∧ (cutP 43 l).1 = t ∧ t.length ≤ l.length := by
      unfold signL cutP
      cases l with
      | nil => exact ⟨[], rfl, rfl, Nat.le_refl _⟩
      | cons a r =>
        have ha : a ≠ 45 := by simpa using h45
        simp only [if_neg ha, List.head?_cons, Option.some.injEq, List.tail_cons]
        by_cases h43 : a = 43
        · simp [h43]
        · simp [h43]
    obtain ⟨t, h1, h2, h3⟩ := hs
    rw [h2]
    obtain ⟨k1, k2⟩ := key t 1 (.inl rfl) h3 h1
    have hdl := dl_le t
    simp only [S_size, S_extract, beq_iff_eq, decide_eq_true_eq, gt_iff_lt]
    refine sdigits _ ?_
    rw [mn]
    refine ifC (fun h0 => k1 (by omega)) fun h0 => ?_
    have h0' : dl t ≠ 0 := by omega
    obtain ⟨v, kk, hh, b1, b2, b3, b4, hK⟩ := k2 h0'
    refine ifT (by omega) (ifT (by omega) (hval t h0' ?_))
    unfold hourL at hh
    by_cases hg : valL (t.take (min (dl t) 3)) > 167
    · rw [if_pos hg] at hh
      obtain ⟨rfl, rfl⟩ : _ = v ∧ _ = kk := by simpa using hh
      refine ifT (by omega) (ifT (by omega) ?_)
      rw [w64_in (n := ((min (dl t) 3 : Nat) : Int) - 1) (by omega) (by omega), show ((min (dl t) 3 : Nat) : Int) - 1 = ((min (dl t) 3 - 1 : Nat) : Int) by omega]
      refine ifT (by omega) ?_
      simp only [lt, Int.toNat_natCast, fin, tdiv]
      refine ssixty _ (smore _ ?_)
      have hs := sixty_bd (t.drop (min (dl t) 3 - 1))
      have hm := more_bd (t.drop (min (dl t) 3 - 1))
      generalize valL (t.take (min (dl t) 3)) / 10 = v at *
      generalize (sixtyL (t.drop (min (dl t) 3 - 1))).1 = a at *
      generalize (moreL (sixtyL (t.drop (min (dl t) 3 - 1)))).1 = b at *
      rw [w64_in (n := (v : Int)) (by omega) (by omega), w64_in (n := (v : Int) * 3600) (by omega) (by omega), w64_in (n := a * 60) (by omega) (by omega), w64_in (n := (v : Int) * 3600 + a * 60) (by omega) (by omega), w64_in (n := (v : Int) * 3600 + a * 60 + b) (by omega) (by omega), w64_in (by omega) (by omega)]
      exact hK
    · rw [if_neg hg] at hh
      obtain ⟨rfl, rfl⟩ : _ = v ∧ _ = kk := by simpa using hh
      refine ifF (by omega) (ifT (by omega) (ifT (by omega) ?_))
      simp only [lt, Int.toNat_natCast, fin]
      refine ssixty _ (smore _ ?_)
      have hs := sixty_bd (t.drop (min (dl t) 3))
      have hm := more_bd (t.drop (min (dl t) 3))
      generalize valL (t.take (min (dl t) 3)) = v at *
      generalize (sixtyL (t.drop (min (dl t) 3))).1 = a at *
      generalize (moreL (sixtyL (t.drop (min (dl t) 3)))).1 = b at *
      rw [w64_in (n := (v : Int) * 3600) (by omega) (by omega), w64_in (n := a * 60) (by omega) (by omega), w64_in (n := (v : Int) * 3600 + a * 60) (by omega) (by omega), w64_in (n := (v : Int) * 3600 + a * 60 + b) (by omega) (by omega), w64_in (by omega) (by omega)]
      exact hK
end Go.Proofs.YtodmkipcgfodkaaGreatDoor
end
section
set_option linter.unusedVariables false
set_option linter.unusedSimpArgs false
namespace Go.Proofs.YtodmkipcgfodkaaGreatDoor
open Go Go.Proofs.YtodmkipcgfodkaaGreatDoor.Eng Go.Proofs.YtodmkipcgfodkaaGreatDoor.Pl
set_option linter.unusedVariables false
set_option linter.unusedSimpArgs false
theorem take_all (t : List UInt8) (k : Nat) : (t.drop k).take (t.length - k) = t.drop k := List.take_of_length_le (by simp)
theorem swithin (n a b : Int) {K} (h : K (decide (a ≤ n ∧ n ≤ b))) : Xrule_within n a b K := by
  unfold Xrule_within Yrule_within
  simp only [decide_eq_true_eq, ge_iff_le]
  refine ifC (fun h1 => cast (congrArg K ?_) h) fun h1 => cast (congrArg K ?_) h
  · simp [h1]
  · simp [h1]
theorem sruleRight (k a b c x : Int) {K} (h : K (rightR k a b c x)) : Xrule_Right (k, a, b, c, x, ()) K := by
  unfold Xrule_Right Yrule_Right
  simp only [beq_iff_eq, decide_eq_true_eq, gt_iff_lt]
  refine swithin _ _ _ ?_
  have fin : ∀ z : Bool, (z = true ↔ ((-604799 ≤ x ∧ x ≤ 604799) ∧ ((k = 0 ∧ 1 ≤ a ∧ a ≤ 12 ∧ 1 ≤ b ∧ b ≤ 5 ∧ 0 ≤ c ∧ c ≤ 6) ∨ (k = 1 ∧ 1 ≤ a ∧ a ≤ 365 ∧ b = 0 ∧ c = 0) ∨ (k = 2 ∧ 0 ≤ a ∧ a ≤ 365 ∧ b = 0 ∧ c = 0)))) → K z := fun z hz =>
    cast (congrArg K (Bool.eq_iff_iff.2 ((right_iff k a b c x).trans hz.symm))) h
  clear h
  refine ifC (fun k0 => ?_) fun k0 => ?_
  · refine ifC (fun hx => ?_) fun hx => fin _ ?_
    · refine swithin _ _ _ (ifC (fun ha => swithin _ _ _ (ifC (fun hb => swithin _ _ _ (fin _ ?_)) fun hb => fin _ ?_)) fun ha => fin _ ?_)
      all_goals (simp only [decide_eq_true_eq, Bool.false_eq_true, false_iff] at *; omega)
    · simp only [decide_eq_true_eq, Bool.false_eq_true, false_iff] at *; omega
  · refine ifC (fun k1 => ?_) fun k1 => ifC (fun k2 => ?_) fun k2 => fin _ (by simp only [Bool.false_eq_true, false_iff]; omega)
    · refine ifC (fun hx => ifC (fun ha => swithin _ _ _ (ifC (fun hb => ifC (fun hc => fin _ ?_) fun hc => fin _ ?_) fun hb => fin _ ?_)) fun ha => fin _ ?_) fun hx => fin _ ?_
      all_goals (simp only [decide_eq_true_eq, Bool.false_eq_true, false_iff, beq_iff_eq] at *; omega)
    · refine ifC (fun hx => swithin _ _ _ (ifC (fun hb => ifC (fun hc => fin _ ?_) fun hc => fin _ ?_) fun hb => fin _ ?_)) fun hx => fin _ ?_
      all_goals (simp only [decide_eq_true_eq, Bool.false_eq_true, false_iff, beq_iff_eq] at *; omega)
theorem snumber (l : List UInt8) (m : Nat) (hm : m ≤ 18) {K} (h : K (numberL l m).1 (S (numberL l m).2.1) (numberL l m).2.2) : Xrule_number (S l) (m : Int) K := by
  unfold Xrule_number Yrule_number
  refine sdigits _ ?_
  have hd := dl_le l
  unfold numberL at h
  simp only [beq_iff_eq, decide_eq_true_eq, gt_iff_lt, S_size, S_extract, Int.toNat_natCast, take_all, List.drop_zero, Nat.sub_zero]
  by_cases e : dl l = 0 ∨ m < dl l
  · rw [if_pos e] at h
    exact ifC (fun _ => h) fun _ => ifT (by omega) h
  · rw [if_neg e] at h
    refine ifF (by omega) (ifF (by omega) (ifT (by omega) (ifT (by omega) ?_)))
    have hlen : (l.take (dl l)).length = dl l := by rw [List.length_take]; omega
    exact satoi _ (fun e => by rw [e] at hlen; simp at hlen; omega) (take_dl_dig l _ (Nat.le_refl _)) (by omega) (ifT (by omega) (ifT (by omega) h))
theorem sweek (l : List UInt8) {K} (h : K (0, (weekL l).1, (weekL l).2.1, (weekL l).2.2.1, 0, ()) (S (weekL l).2.2.2.1) (weekL l).2.2.2.2) : Xrule_week (S l) K := by
  unfold Xrule_week Yrule_week
  refine snumber l 2 (by omega) (sCutPrefix _ _ (snumber _ 1 (by omega) (sCutPrefix _ _ (snumber _ 1 (by omega) ?_))))
  unfold weekL at h
  generalize numberL l 2 = p at *
  generalize cutP 46 p.2.1 = q at *
  generalize numberL q.1 1 = r at *
  generalize cutP 46 r.2.1 = t at *
  generalize numberL t.1 1 = u at *
  obtain ⟨p1, p2, p3⟩ := p
  obtain ⟨q1, q2⟩ := q
  obtain ⟨r1, r2, r3⟩ := r
  obtain ⟨t1, t2⟩ := t
  obtain ⟨u1, u2, u3⟩ := u
  simp only at h ⊢
  cases p3 <;> cases r3 <;> cases u3 <;> cases q2 <;> simpa using h
theorem sdate (l : List UInt8) {K} (h : K ((dateL l).1, (dateL l).2.1, (dateL l).2.2.1, (dateL l).2.2.2.1, 0, ()) (S (dateL l).2.2.2.2.1) (dateL l).2.2.2.2.2) : Xrule_date (S l) K := by
  unfold Xrule_date Yrule_date
  refine sCutPrefix _ _ ?_
  unfold dateL at h
  unfold cutP
  by_cases e : l.head? = some 77
  · rw [if_pos e] at h ⊢
    exact ifT rfl (sweek _ h)
  · rw [if_neg e] at h ⊢
    refine ifF (by simp) (sCutPrefix _ _ ?_)
    unfold cutP
    by_cases e2 : l.head? = some 74
    · rw [if_pos e2] at h ⊢
      exact ifT rfl (snumber _ 3 (by omega) h)
    · rw [if_neg e2] at h ⊢
      exact ifF (by simp) (snumber _ 3 (by omega) h)
theorem date_len (l : List UInt8) : (dateL l).2.2.2.2.1.length ≤ l.length := by
  obtain ⟨j, _, e, _⟩ := dateL_drop l
  rw [e, List.length_drop]; omega
theorem sruleParse (l : List UInt8) (hl : l.length ≤ 140737488351232) {K} (h : K ((parseL l).1, (parseL l).2.1, (parseL l).2.2.1, (parseL l).2.2.2.1, (parseL l).2.2.2.2.1, ()) (S (parseL l).2.2.2.2.2.1) (parseL l).2.2.2.2.2.2) : Xrule_Parse (S l) K := by
  unfold Xrule_Parse Yrule_Parse
  refine sdate _ (sCutPrefix _ _ ?_)
  have hlen := date_len l
  unfold parseL at h
  generalize dateL l = d at *
  obtain ⟨dk, da, db, dc, dt, ok⟩ := d
  simp only at h hlen ⊢
  unfold cutP
  by_cases e : dt.head? = some 47
  · rw [if_pos e] at h ⊢
    cases ok
    · simp only [Bool.false_eq_true, if_false] at h
      exact ifF (by simp) (ifT rfl h)
    · simp only [if_true] at h
      refine ifT rfl (ifT rfl (stime _ (by rw [List.length_tail]; omega) ?_))
      by_cases e2 : (timeL dt.tail).2.2 = true
      · refine ifF (by simp [e2]) (sruleRight _ _ _ _ _ ?_)
        by_cases e3 : rightR dk da db dc (timeL dt.tail).1 = true
        · rw [if_pos ⟨e2, e3⟩] at h
          exact ifF (by simp [e3]) h
        · rw [if_neg (fun h => e3 h.2)] at h
          exact ifT (by simpa using e3) h
      · rw [if_neg (fun h => e2 h.1)] at h
        exact ifT (by simpa using e2) h
  · rw [if_neg e] at h ⊢
    cases ok
    · simp only [Bool.false_eq_true, if_false] at h
      exact ifF (by simp) (ifT rfl h)
    · simp only [if_true] at h
      refine ifT rfl (ifF (by simp) (ifF (by simp) (sruleRight _ _ _ _ _ ?_)))
      by_cases e3 : rightR dk da db dc 7200 = true
      · rw [if_pos e3] at h
        exact ifF (by simp [e3]) h
      · rw [if_neg e3] at h
        exact ifT (by simpa using e3) h
end Go.Proofs.YtodmkipcgfodkaaGreatDoor
end
section
set_option linter.unusedVariables false
set_option linter.unusedSimpArgs false
namespace Go.Proofs.YtodmkipcgfodkaaGreatDoor
open Go Go.Proofs.YtodmkipcgfodkaaGreatDoor.Eng Go.Proofs.YtodmkipcgfodkaaGreatDoor.Pl
set_option linter.unusedVariables false
set_option linter.unusedSimpArgs false
theorem tmod_leap (y : Int) : (Int.tmod y 4 = 0 ↔ y % 4 = 0) ∧ (Int.tmod y 100 = 0 ↔ y % 100 = 0) ∧ (Int.tmod y 400 = 0 ↔ y % 400 = 0) := by
  refine ⟨?_, ?_, ?_⟩ <;> rw [← Int.dvd_iff_emod_eq_zero, Int.dvd_iff_tmod_eq_zero]
theorem sleap (y : Int) {K} (h : K (leapY y)) : Xday_Leap y K := by
  unfold Xday_Leap Yday_Leap
  obtain ⟨t1, t2, t3⟩ := tmod_leap y
  have fin : ∀ z : Bool, (z = true ↔ (y % 4 = 0 ∧ (y % 100 ≠ 0 ∨ y % 400 = 0))) → K z := fun z hz => cast (congrArg K (Bool.eq_iff_iff.2 ((leapY_iff y).trans hz.symm))) h
  simp only [beq_iff_eq, bne_iff_ne, ne_eq, t1, t2]
  refine ifC (fun h1 => ifC (fun h2 => fin _ ?_) fun h2 => fin _ ?_) fun h1 => fin _ ?_
  · simp; omega
  · rw [beq_iff_eq, t3]; omega
  · simp; omega
theorem slast (y m : Int) {K} (h : K (if 1 ≤ y ∧ y ≤ 9999 ∧ 1 ≤ m ∧ m ≤ 12 then dim y m else 0) (decide (1 ≤ y ∧ y ≤ 9999 ∧ 1 ≤ m ∧ m ≤ 12))) : Xday_Last y m K := by
  unfold Xday_Last Yday_Last
  simp only [decide_eq_true_eq, gt_iff_lt]
  by_cases e : 1 ≤ y ∧ y ≤ 9999 ∧ 1 ≤ m ∧ m ≤ 12
  · rw [if_pos e, decide_eq_true e] at h
    refine ifF (by omega) (ifF (by omega) (ifF (by omega) (ifF (by omega) ?_)))
    rw [w64_in (by omega) (by omega)]
    refine ifT (by omega) ?_
    rcases month_cases e.2.2.1 e.2.2.2 with rfl | rfl | rfl | rfl | rfl | rfl | rfl | rfl | rfl | rfl | rfl | rfl
    all_goals
      simp only [Int.sub_self, Int.reduceSub, Int.reduceToNat, Nat.reduceMul, List.getElem?_cons_zero, List.getElem?_cons_succ, Eng.asInt, if_true, beq_iff_eq, Int.toNat_zero, Nat.zero_mul, beq_self_eq_true, Int.reduceBEq, Bool.false_eq_true, if_false]
      first
      | exact h
      | (refine sleap _ ?_
         unfold dim at h
         rw [if_pos rfl] at h
         refine ifC (fun hl => ?_) fun hl => ?_
         · rw [if_pos hl] at h; exact h
         · rw [if_neg hl] at h; exact h)
  · rw [if_neg e, decide_eq_false e] at h
    exact ifC (fun _ => h) fun _ => ifC (fun _ => h) fun _ => ifC (fun _ => h) fun _ => ifT (by omega) h
theorem ediv_in (a b : Int) (h0 : -9223372036854775808 ≤ a) (h1 : a ≤ 9223372036854775807) (hb : 1 ≤ b) : -9223372036854775808 ≤ a / b ∧ a / b ≤ 9223372036854775807 := by
  constructor
  · have : a ≤ a / b ∨ 0 ≤ a / b := by
      by_cases hn : 0 ≤ a
      · exact .inr (Int.ediv_nonneg hn (by omega))
      · refine .inl (Int.le_ediv_of_mul_le (by omega) ?_)
        have : (b - 1) * a ≤ 0 := Int.mul_nonpos_of_nonneg_of_nonpos (by omega) (by omega)
        rw [Int.sub_mul, Int.mul_comm b a] at this
        omega
    omega
  · have := Int.ediv_le_self (a := a) b
    by_cases hn : 0 ≤ a
    · have := this hn; omega
    · have := Int.ediv_neg_of_neg_of_pos (by omega : a < 0) (by omega : 0 < b); omega
theorem sdiv (a b : Int) (h0 : -9223372036854775808 ≤ a) (h1 : a ≤ 9223372036854775807) (hb : 1 ≤ b) (hb' : b ≤ 9223372036854775807) {K} (h : K (a / b) (a % b) true) : Xnum_Div a b K := by
  unfold Xnum_Div Ynum_Div
  have hm := Int.emod_nonneg a (by omega : b ≠ 0)
  have hm2 := Int.emod_lt_of_pos a (by omega : 0 < b)
  obtain ⟨hq1, hq2⟩ := ediv_in a b h0 h1 hb
  simp only [decide_eq_true_eq, lt]
  refine ifF (by omega) (ifF (by omega) (ifF (by omega) ?_))
  by_cases hn : 0 ≤ a
  · rw [Int.tmod_eq_emod_of_nonneg hn, Int.tdiv_eq_ediv_of_nonneg hn]
    refine ifF (by omega) ?_
    rw [w64_in hq1 hq2]; exact h
  · by_cases hz : a % b = 0
    · have hd : b ∣ a := Int.dvd_of_emod_eq_zero hz
      have e1 : Int.tmod a b = 0 := Int.tmod_eq_zero_of_dvd hd
      have e2 : Int.tdiv a b = a / b := by
        obtain ⟨c, rfl⟩ := hd
        rw [Int.mul_tdiv_cancel_left _ (by omega), Int.mul_ediv_cancel_left _ (by omega)]
      rw [e1, e2]
      refine ifF (by omega) ?_
      rw [w64_in hq1 hq2, ← hz]; exact h
    · have e1 : Int.tmod a b = a % b - b := by
        rw [Int.tmod_eq_emod]
        have : ¬ (0 ≤ a ∨ b ∣ a) := by
          rintro (h | h)
          · exact hn h
          · exact hz (Int.emod_eq_zero_of_dvd h)
        rw [if_neg this]
        have : (b.natAbs : Int) = b := by omega
        omega
      have e2 : Int.tdiv a b = a / b + 1 := by
        have := Int.mul_tdiv_add_tmod a b
        rw [e1] at this
        have hdm := Int.mul_ediv_add_emod a b
        have h2 : b * (Int.tdiv a b) = b * (a / b + 1) := by rw [Int.mul_add]; omega
        exact Int.eq_of_mul_eq_mul_left (by omega) h2
      have hlt : a / b < 0 := Int.ediv_neg_of_neg_of_pos (by omega) (by omega)
      rw [e1, e2]
      refine ifT (by omega) ?_
      rw [w64_in (n := a / b + 1) (by omega) (by omega), w64_in (by omega) (by omega), w64_in (by omega) (by omega), show a / b + 1 - 1 = a / b by omega, show a % b - b + b = a % b by omega]
      exact h
theorem sweekday (n : Int) (h0 : -9223372036854775808 ≤ n) (h1 : n ≤ 9223372036854775807) {K} (h : K (wk n)) : Xday_Week n K := by
  unfold Xday_Week Yday_Week
  have ht : -7 < Int.tmod n 7 ∧ Int.tmod n 7 < 7 ∧ (Int.tmod n 7 + 4) % 7 = (n + 4) % 7 := by
    rw [Int.tmod_eq_emod]; split <;> simp <;> omega
  rw [w64_in (by omega) (by omega)]
  refine sdiv _ _ (by omega) (by omega) (by omega) (by omega) ?_
  rw [ht.2.2]; exact h
def okD (y m d : Int) : Prop := 1 ≤ y ∧ y ≤ 9999 ∧ 1 ≤ m ∧ m ≤ 12 ∧ 1 ≤ d ∧ d ≤ dim y m
instance (y m d : Int) : Decidable (okD y m d) := by unfold okD; infer_instance
theorem snum (y m d : Int) (hd0 : -9223372036854775808 ≤ d) (hd1 : d ≤ 9223372036854775807) {K} (h : K (if okD y m d then num y m d else 0) (decide (okD y m d))) : Xday_Number y m d K := by
  unfold Xday_Number Yday_Number
  refine slast _ _ ?_
  simp only [decide_eq_true_eq, gt_iff_lt, lt]
  by_cases e : 1 ≤ y ∧ y ≤ 9999 ∧ 1 ≤ m ∧ m ≤ 12
  · rw [decide_eq_true e, if_pos e]
    refine ifF (by simp) ?_
    by_cases e2 : 1 ≤ d ∧ d ≤ dim y m
    · have ok : okD y m d := ⟨e.1, e.2.1, e.2.2.1, e.2.2.2, e2.1, e2.2⟩
      rw [if_pos ok, decide_eq_true ok] at h
      refine ifF (by omega) (ifF (by omega) ?_)
      have hd := dim_bd y m
      rw [← numP_eq e.2.2.1 e.2.2.2] at h
      unfold numP sy sm at h
      refine ifC (fun hm => ?_) fun hm => ?_
      · rw [if_pos hm, if_pos hm] at h
        rw [w64_in (n := y - 1) (by omega) (by omega)]
        refine sdiv _ _ (by omega) (by omega) (by omega) (by omega) ?_
        have b1 : 0 ≤ (y - 1) % 400 ∧ (y - 1) % 400 ≤ 399 := by omega
        have b2 : 0 ≤ (y - 1) / 400 ∧ (y - 1) / 400 ≤ 25 := by omega
        generalize (y - 1) % 400 = r at *
        generalize (y - 1) / 400 = q at *
        simp (disch := omega) only [w64_in, Int.tdiv_eq_ediv_of_nonneg]
        refine cast (congrArg (fun z => K z true) ?_) h
        omega
      · rw [if_neg hm, if_neg hm] at h
        refine sdiv _ _ (by omega) (by omega) (by omega) (by omega) ?_
        have b1 : 0 ≤ y % 400 ∧ y % 400 ≤ 399 := by omega
        have b2 : 0 ≤ y / 400 ∧ y / 400 ≤ 25 := by omega
        generalize y % 400 = r at *
        generalize y / 400 = q at *
        simp (disch := omega) only [w64_in, Int.tdiv_eq_ediv_of_nonneg]
        refine cast (congrArg (fun z => K z true) ?_) h
        omega
    · have ok : ¬ okD y m d := fun h => e2 h.2.2.2.2
      rw [if_neg ok, decide_eq_false ok] at h
      exact ifC (fun _ => h) fun _ => ifT (by omega) h
  · have ok : ¬ okD y m d := fun h => e ⟨h.1, h.2.1, h.2.2.1, h.2.2.2.1⟩
    rw [if_neg ok, decide_eq_false ok] at h
    rw [decide_eq_false e]
    exact ifT rfl h
theorem sday (n : Int) {K} (h : if -719162 ≤ n ∧ n ≤ 2932896 then K (yearP n) (monP n) (dayP n) true else K 0 0 0 false) : Xday_Date n K := by
  unfold Xday_Date Yday_Date
  simp only [decide_eq_true_eq, gt_iff_lt, lt]
  by_cases e : -719162 ≤ n ∧ n ≤ 2932896
  · rw [if_pos e] at h
    refine ifF (by omega) (ifF (by omega) ?_)
    rw [w64_in (n := n + 719468) (by omega) (by omega)]
    refine sdiv _ _ (by omega) (by omega) (by omega) (by omega) ?_
    have b1 : 0 ≤ (n + 719468) / 146097 ∧ (n + 719468) / 146097 ≤ 25 := by omega
    have b2 : 0 ≤ (n + 719468) % 146097 ∧ (n + 719468) % 146097 ≤ 146096 := by omega
    have hv := doy_bd (by omega : -719162 ≤ n) (by omega)
    unfold yearP monP dayP mon doy yrs era ofE at *
    generalize (n + 719468) / 146097 = q at *
    generalize (n + 719468) % 146097 = o at *
    have hg : 0 ≤ gy o ∧ gy o ≤ 146096 ∧ gy o = o - o / 1460 + o / 36524 - o / 146096 := by unfold gy; omega
    simp (disch := omega) only [w64_in, Int.tdiv_eq_ediv_of_nonneg]
    rw [← hg.2.2]
    have hY : 0 ≤ gy o / 365 ∧ gy o / 365 ≤ 400 := by omega
    have hS : st (gy o / 365) = 365 * (gy o / 365) + gy o / 365 / 4 - gy o / 365 / 100 := rfl
    rw [hS] at hv h
    generalize o - (365 * (gy o / 365) + gy o / 365 / 4 - gy o / 365 / 100) = D at *
    simp (disch := omega) only [w64_in, Int.tdiv_eq_ediv_of_nonneg]
    refine ifC (fun hm => ?_) fun hm => ?_
    · rw [if_pos (by omega), if_pos (by omega)] at h; exact h
    · rw [if_neg (by omega), if_neg (by omega)] at h; exact h
  · rw [if_neg e] at h
    exact ifC (fun _ => h) fun _ => ifT (by omega) h
theorem sruleDay (k a b c x y : Int) {K} (h : K (if (1 ≤ y ∧ y ≤ 9999) ∧ rightR k a b c x = true then ruleDay k a b c y else 0) (decide ((1 ≤ y ∧ y ≤ 9999) ∧ rightR k a b c x = true))) : Xrule_Day (k, a, b, c, x, ()) y K := by
  unfold Xrule_Day Yrule_Day
  refine snum _ _ _ (by omega) (by omega) ?_
  simp only [decide_eq_true_eq, gt_iff_lt, ge_iff_le, lt, beq_iff_eq]
  have h1 : okD y 1 1 ↔ (1 ≤ y ∧ y ≤ 9999) := by unfold okD; have := dim_jan y; omega
  by_cases ey : 1 ≤ y ∧ y ≤ 9999
  · rw [if_pos (h1.2 ey), decide_eq_true (h1.2 ey)]
    refine ifF (by simp) (sruleRight _ _ _ _ _ ?_)
    by_cases e : rightR k a b c x = true
    · rw [if_pos ⟨ey, e⟩, decide_eq_true ⟨ey, e⟩] at h
      refine ifF (by simp [e]) ?_
      obtain ⟨hx, hr⟩ := (right_iff k a b c x).1 e
      have hf := fst_bd ey.1 ey.2
      have hf2 := fst_succ y
      rw [num_first] 
      unfold ruleDay at h
      refine ifC (fun k2 => ?_) fun k2 => ?_
      · rw [if_pos k2] at h
        rw [w64_in (by omega) (by omega)]; exact h
      · rw [if_neg k2] at h
        refine ifC (fun k1 => ?_) fun k1 => ?_
        · rw [if_pos k1] at h
          refine ifC (fun ha => ?_) fun ha => sleap _ ?_
          · rw [if_pos (.inl ha)] at h
            rw [w64_in (n := fst y - 1) (by omega) (by omega), w64_in (by omega) (by omega)]; exact h
          · refine ifC (fun hl => ?_) fun hl => ?_
            · rw [if_pos (.inr (by simpa using hl))] at h
              rw [w64_in (n := fst y - 1) (by omega) (by omega), w64_in (by omega) (by omega)]; exact h
            · rw [if_neg (by rintro (h | h); exact ha h; simp [h] at hl)] at h
              rw [w64_in (by omega) (by omega)]; exact h
        · rw [if_neg k1] at h
          refine snum _ _ _ (by omega) (by omega) (slast _ _ ?_)
          have hok : okD y a 1 := ⟨ey.1, ey.2, by omega, by omega, by omega, by have := dim_bd y a; omega⟩
          have hv : Vld y a 1 := ⟨ey.1, ey.2, by omega, by omega, by omega, by have := dim_bd y a; omega⟩
          have hn := num_range hv
          rw [if_pos hok, if_pos ⟨ey.1, ey.2, by omega, by omega⟩]
          refine sweekday _ (by omega) (by omega) ?_
          have hw : 0 ≤ wk (num y a 1) ∧ wk (num y a 1) < 7 := by unfold wk; omega
          have hd := dim_bd y a
          unfold offW at h
          simp only at h
          generalize num y a 1 = n at *
          generalize wk n = w at *
          generalize dim y a = D at *
          rw [w64_in (n := b - 1) (by omega) (by omega), w64_in (n := 7 * (b - 1)) (by omega) (by omega), w64_in (n := c - w) (by omega) (by omega), w64_in (n := c - w + 7) (by omega) (by omega), Int.tmod_eq_emod_of_nonneg (by omega)]
          rw [w64_in (n := (c - w + 7) % 7 + 7 * (b - 1)) (by omega) (by omega)]
          refine ifC (fun hk => ?_) fun hk => ?_
          · rw [if_pos (by omega)] at h
            rw [w64_in (n := (c - w + 7) % 7 + 7 * (b - 1) - 7) (by omega) (by omega), w64_in (by omega) (by omega)]; exact h
          · rw [if_neg (by omega)] at h
            rw [w64_in (by omega) (by omega)]; exact h
    · rw [if_neg (fun h => e h.2), decide_eq_false (fun h => e h.2)] at h
      exact ifT (by simpa using e) h
  · rw [if_neg (fun h => ey h.1), decide_eq_false (fun h => ey h.1)] at h
    have : ¬ okD y 1 1 := fun h => ey (h1.1 h)
    rw [decide_eq_false this]
    exact ifT rfl h
/-- A rule's second of a year, from the first of 1970 on. -/
def ruleAt (k a b c x y : Int) : Int := ruleDay k a b c y * 86400 + x
theorem sruleAt (k a b c x y : Int) {K} (h : K (if (1 ≤ y ∧ y ≤ 9999) ∧ rightR k a b c x = true then ruleAt k a b c x y else 0) (decide ((1 ≤ y ∧ y ≤ 9999) ∧ rightR k a b c x = true))) : Xrule_At (k, a, b, c, x, ()) y K := by
  unfold Xrule_At Yrule_At
  refine sruleDay _ _ _ _ _ _ ?_
  simp only [decide_eq_true_eq, lt]
  by_cases e : (1 ≤ y ∧ y ≤ 9999) ∧ rightR k a b c x = true
  · rw [if_pos e, decide_eq_true e] at h ⊢
    refine ifF (by simp) ?_
    obtain ⟨hx, hr⟩ := (right_iff k a b c x).1 e.2
    have hf := fst_bd e.1.1 e.1.2
    have hf2 := fst_succ y
    have hb := ruleDay_bd e.1 e.2
    rw [w64_in (n := ruleDay k a b c y * 86400) (by omega) (by omega), w64_in (by omega) (by omega)]
    exact h
  · rw [if_neg e, decide_eq_false e] at h
    rw [decide_eq_false e]
    exact ifT rfl h
theorem sadd (a b : Int) (ha : -9223372036854775808 ≤ a ∧ a ≤ 9223372036854775807) (hb : -9223372036854775808 ≤ b ∧ b ≤ 9223372036854775807) {K}
    (h : if -9223372036854775808 ≤ a + b ∧ a + b ≤ 9223372036854775807 then K (a + b) true else K 0 false) : Xnum_Add a b K := by
  unfold Xnum_Add Ynum_Add
  simp only [lt, bne_iff_ne, ne_eq]
  by_cases e : -9223372036854775808 ≤ a + b ∧ a + b ≤ 9223372036854775807
  · rw [if_pos e] at h
    rw [w64_in e.1 e.2]
    exact ifC (fun h1 => ifC (fun h2 => absurd h1 (by simp; omega)) fun _ => h) fun _ => h
  · rw [if_neg e] at h
    have hw : w64 (a + b) = if a + b < 0 then a + b + 18446744073709551616 else a + b - 18446744073709551616 := by
      unfold w64 IntKind.wrap
      simp [IntKind.bits, IntKind.signed]
      split <;> omega
    rw [hw]
    refine ifT ?_ (ifT (by omega) h)
    split <;> simp <;> omega
end Go.Proofs.YtodmkipcgfodkaaGreatDoor
end
section
set_option linter.unusedVariables false
set_option linter.unusedSimpArgs false
namespace Go.Proofs.YtodmkipcgfodkaaGreatDoor
open Go Go.Proofs.YtodmkipcgfodkaaGreatDoor.Eng Go.Proofs.YtodmkipcgfodkaaGreatDoor.Pl
set_option linter.unusedVariables false
set_option linter.unusedSimpArgs false
set_option maxRecDepth 100000
set_option maxHeartbeats 2000000
theorem kStClock (x : Int) (h0 : 0 ≤ x) (h1 : x < 86400) {K} (h : K (x / 3600) (x / 60 % 60) (x % 60) true) : Xstamp_Clock x K := by
  unfold Xstamp_Clock Ystamp_Clock
  simp only [decide_eq_true_eq, beq_iff_eq]
  rw [if_neg (by omega), if_neg (by omega), if_neg (by omega), Int.tdiv_eq_ediv_of_nonneg h0, Int.tdiv_eq_ediv_of_nonneg h0, Int.tmod_eq_emod_of_nonneg h0,
    w64_in (by omega) (by omega), w64_in (by omega) (by omega), Int.tmod_eq_emod_of_nonneg (by omega)]
  exact h
/-- Numbers laid into a form, from its end. -/
def fillR : List UInt8 → List Int → List UInt8
  | [], _ => []
  | c :: r, ns => if c = 48 then UInt8.ofNat (48 + (ns.headD 0 % 10).toNat) :: fillR r (ns.headD 0 / 10 :: ns.tail) else c :: fillR r ns.tail
def fillL (f : List UInt8) (ns : List Int) : List UInt8 := (fillR f.reverse ns.reverse).reverse
def IV (ns : List Int) : List V := ns.map fun n => .c (.int .i64 n)
theorem IV_len (ns : List Int) : (IV ns).length = ns.length := by simp [IV]
theorem asIV {ns : List Int} {i : Nat} (h : i < ns.length) {F : Prop} {K : Int → Prop} (hk : K ns[i]) : Eng.asInt .i64 (getC (IV ns) i 0) F K := by
  have : getC (IV ns) i 0 = some (.c (.int .i64 ns[i])) := by simp [getC, IV, V.cells, h]
  rw [this]; simpa [Eng.asInt] using hk
theorem IV_set (ns : List Int) (i : Nat) (h : i < ns.length) (x : Int) : List.set (IV ns) i (Eng.setE (List.getD (IV ns) i Eng.V.bad) 0 [.c (.int .i64 x)]) = IV (ns.set i x) := by
  have : List.getD (IV ns) i Eng.V.bad = .c (.int .i64 ns[i]) := by simp [IV, List.getD, h]
  rw [this]
  show List.set (IV ns) i (.c (.int .i64 x)) = _
  simp [IV, List.map_set]
theorem B8_set (l : List UInt8) (i : Nat) (h : i < l.length) (x : UInt8) : List.set (B8 l) i (Eng.setE (List.getD (B8 l) i Eng.V.bad) 0 [.c (.int .u8 (x.toNat : Int))]) = B8 (l.set i x) := by
  have : List.getD (B8 l) i Eng.V.bad = .c (.int .u8 (l[i].toNat : Int)) := by simp [B8, List.getD, h]
  rw [this]
  show List.set (B8 l) i (.c (.int .u8 (x.toNat : Int))) = _
  simp [B8, List.map_set]
theorem kFill (f : List UInt8) (ns : List Int) (hf : f.length ≤ 1000) (hn : ns.length ≤ 1000) (h0 : ∀ n ∈ ns, 0 ≤ n ∧ n ≤ 9223372036854775807) (hc : (f.filter (· ≠ 48)).length < ns.length) {K} (h : K (S (fillL f ns))) : Xstamp_fill (S f) (IV ns) true false K := by
  unfold Xstamp_fill Ystamp_fill
  rw [bytesV_S, B8_len, IV_len]
  have w1 : w64 ((ns.length : Int) - 1) = ((ns.length : Nat) : Int) - 1 := w64_in (by omega) (by omega)
  have w2 : w64 ((f.length : Int) - 1) = ((f.length : Nat) : Int) - 1 := w64_in (by omega) (by omega)
  rw [w1, w2]
  refine lp_ind (fun x => (x.1.2.2.2.2.1 + 1).toNat) (fun x => ∃ (p : Nat) (k : Int) (ms : List Int) (bs : List UInt8), p ≤ f.length ∧ bs.length = f.length ∧ bs.take p = f.take p ∧ ms.length = ns.length ∧ k < ms.length ∧
    (∀ n ∈ ms, 0 ≤ n ∧ n ≤ 9223372036854775807) ∧ (((f.take p).filter (· ≠ 48)).length : Int) ≤ k ∧ (fillR (f.take p).reverse (ms.take (k + 1).toNat).reverse).reverse ++ bs.drop p = fillL f ns ∧
    x = (((), ByteArray.mk #[], (), k, (p : Int) - 1, ()), (IV ms, true, false), B8 bs, ())) ?_
    ⟨f.length, (ns.length : Int) - 1, ns, f, Nat.le_refl _, rfl, rfl, rfl, by omega, h0, by rw [List.take_length]; omega, by rw [List.take_length, show ((ns.length : Int) - 1 + 1).toNat = ns.length by omega, List.take_length]; simp [fillL], rfl⟩
  rintro x ⟨p, k, ms, bs, hp, hb, hbt, hm, hk, hz, hcnt, hres, rfl⟩ kk hkk
  unfold Lstamp_fill_0
  simp only [decide_eq_true_eq, B8_len, IV_len]
  cases p with
  | zero =>
    rw [if_neg (by omega), if_pos (B8_all _), B8_pack]
    have : bs = fillL f ns := by simpa [fillR] using hres
    rw [this]; exact h
  | succ p =>
    have hpf : p < f.length := by omega
    have e1 : ((p + 1 : Nat) : Int) - 1 = (p : Int) := by omega
    have hbp : bs[p]'(by omega) = f[p] := by
      have h1 := congrArg (fun l => l[p]?) hbt
      simpa [List.getElem?_take, hpf, show p < bs.length by omega] using h1
    rw [e1, if_pos (by omega), if_pos (by omega)]
    simp only [Int.toNat_natCast]
    refine asB8 (by omega) ?_
    rw [hbp]
    have hrev : (f.take (p + 1)).reverse = f[p] :: (f.take p).reverse := by rw [List.take_succ_eq_append_getElem hpf]; simp
    rw [hrev, fillR] at hres
    have hbd : bs.take p = f.take p := by
      have := congrArg (List.take p) hbt
      simpa [List.take_take, Nat.min_eq_left (Nat.le_succ p)] using this
    have w3 : w64 ((p : Int) - 1) = (p : Int) - 1 := w64_in (by omega) (by omega)
    rw [List.take_succ_eq_append_getElem hpf, List.filter_append] at hcnt
    by_cases hd : f[p] = 48
    · have hne : ¬ (((f[p].toNat : Int) != 48) = true) := by rw [hd]; decide
      rw [if_pos hd] at hres
      have hk0 : 0 ≤ k := by omega
      have hkm : k.toNat < ms.length := by omega
      rw [if_neg hne, if_pos (by omega)]
      refine asB8 (by omega) ?_
      rw [hbp, if_pos (by omega)]
      refine asIV hkm ?_
      simp only [lt]
      rw [if_pos (by omega), if_pos (by omega), if_pos (by omega)]
      refine asIV hkm ?_
      rw [if_pos (by omega), if_pos trivial, if_pos hkm, w3]
      obtain ⟨z0, z1⟩ := hz _ (List.getElem_mem hkm)
      have t1 : Int.tmod ms[k.toNat] 10 = ms[k.toNat] % 10 := Int.tmod_eq_emod_of_nonneg z0
      have t2 : w64 (Int.tdiv ms[k.toNat] 10) = ms[k.toNat] / 10 := by rw [Int.tdiv_eq_ediv_of_nonneg z0, w64_in (by omega) (by omega)]
      have t3 : wu8 ((f[p].toNat : Int) + wu8 (Int.tmod ms[k.toNat] 10)) = ((UInt8.ofNat (48 + (ms[k.toNat] % 10).toNat)).toNat : Int) := by
        rw [t1, hd, wu8_in (n := ms[k.toNat] % 10) (by omega) (by omega), wu8_in (by simp; omega) (by simp; omega)]
        simp; omega
      rw [t2, t3, IV_set _ _ hkm, B8_set _ _ (by omega)]
      have htk : (ms.take (k + 1).toNat).reverse = ms[k.toNat] :: (ms.take k.toNat).reverse := by
        rw [show (k + 1).toNat = k.toNat + 1 by omega, List.take_succ_eq_append_getElem hkm]; simp
      rw [htk] at hres
      refine hkk _ ⟨p, k, ms.set k.toNat (ms[k.toNat] / 10), bs.set p (UInt8.ofNat (48 + (ms[k.toNat] % 10).toNat)), by omega, by simpa using hb, ?_, by simpa using hm, by simpa using hk, fun n hn => ?_, by rw [hd] at hcnt; simpa using hcnt, ?_, by rfl⟩ (by dsimp only; omega)
      · rw [List.take_set_of_le (Nat.le_refl p)]; exact hbd
      · rcases List.mem_or_eq_of_mem_set hn with hn | rfl
        · exact hz n hn
        · omega
      · have e2 : ((ms.set k.toNat (ms[k.toNat] / 10)).take (k + 1).toNat).reverse = ms[k.toNat] / 10 :: (ms.take k.toNat).reverse := by
          rw [show (k + 1).toNat = k.toNat + 1 by omega, List.take_succ_eq_append_getElem (by simpa using hkm), List.take_set_of_le (Nat.le_refl _)]; simp
        have e3 : (bs.set p (UInt8.ofNat (48 + (ms[k.toNat] % 10).toNat))).drop p = UInt8.ofNat (48 + (ms[k.toNat] % 10).toNat) :: bs.drop (p + 1) := by
          rw [List.drop_eq_getElem_cons (by simp; omega), List.getElem_set_self, List.drop_set_of_lt (by omega)]
        rw [e2, e3, ← hres]
        simp
    · have hne : ((f[p].toNat : Int) != 48) = true := by
        rw [bne_iff_ne]; intro e
        exact hd (u8_eq (by have : (48 : UInt8).toNat = 48 := rfl; omega))
      rw [if_neg hd] at hres
      have hcnt' : (((f.take p).filter (· ≠ 48)).length : Int) + 1 ≤ k := by
        have : ([f[p]].filter (· ≠ 48)).length = 1 := by simp [hd]
        rw [List.length_append, this] at hcnt; omega
      rw [if_pos hne, w3, w64_in (by omega) (by omega)]
      refine hkk _ ⟨p, k - 1, ms, bs, by omega, hb, hbd, hm, by omega, hz, by omega, ?_, by rfl⟩ (by dsimp only; omega)
      have hkm : k.toNat < ms.length := by omega
      have htk : (ms.take (k + 1).toNat).reverse = ms[k.toNat] :: (ms.take k.toNat).reverse := by
        rw [show (k + 1).toNat = k.toNat + 1 by omega, List.take_succ_eq_append_getElem hkm]; simp
      rw [htk] at hres
      rw [show (k - 1 + 1).toNat = k.toNat by omega, ← hres, List.drop_eq_getElem_cons (show p < bs.length by omega), hbp]
      simp
/-- The clock of each second. -/
def clk (x : Int) : Int × Int × Int × Bool := if x < 0 ∨ 86400 < x then (0, 0, 0, false) else if x = 86400 then (23, 59, 60, true) else (x / 3600, x / 60 % 60, x % 60, true)
theorem sClk (x : Int) {K} (h : K (clk x).1 (clk x).2.1 (clk x).2.2.1 (clk x).2.2.2) : Xstamp_Clock x K := by
  unfold clk at h
  by_cases h1 : x < 0
  · unfold Xstamp_Clock Ystamp_Clock
    rw [if_pos (.inl h1)] at h
    rw [if_pos (decide_eq_true h1)]; exact h
  by_cases h2 : 86400 < x
  · unfold Xstamp_Clock Ystamp_Clock
    rw [if_pos (.inr h2)] at h
    rw [if_neg (dneg h1), if_pos (decide_eq_true h2)]; exact h
  rw [if_neg (by omega)] at h
  by_cases h3 : x = 86400
  · unfold Xstamp_Clock Ystamp_Clock
    rw [if_pos h3] at h
    rw [if_neg (dneg h1), if_neg (dneg (by omega)), if_pos (by simp [h3])]; exact h
  · rw [if_neg h3] at h
    exact kStClock x (by omega) (by omega) h
/-- A day as a text. -/
def dayB (n : Int) : List UInt8 := fillL [48, 48, 48, 48, 45, 48, 48, 45, 48, 48] [yearP n, monP n, dayP n]
theorem sStDay (n : Int) {K} (h : if -719162 ≤ n ∧ n ≤ 2932896 then K (S (dayB n)) true else K (S []) false) : Xstamp_Day n K := by
  unfold Xstamp_Day Ystamp_Day
  refine sday n ?_
  by_cases hn : -719162 ≤ n ∧ n ≤ 2932896
  · rw [if_pos hn] at h ⊢
    obtain ⟨⟨v1, v2, v3, v4, v5, v6⟩, _⟩ := num_date hn.1 hn.2
    have := dim_bd (yearP n) (monP n)
    rw [if_neg (by simp)]
    exact kFill [48, 48, 48, 48, 45, 48, 48, 45, 48, 48] [yearP n, monP n, dayP n] (by decide) (by simp) (fun m hm => by
      simp only [List.mem_cons, List.not_mem_nil, or_false] at hm
      rcases hm with rfl | rfl | rfl <;> omega) (show 2 < 3 by decide) h
  · rw [if_neg hn] at h ⊢
    rw [if_pos (by simp)]; exact h
/-- A day and a second as a text. -/
def stampC (n x : Int) : List UInt8 := fillL [48, 48, 48, 48, 45, 48, 48, 45, 48, 48, 84, 48, 48, 58, 48, 48, 58, 48, 48] [yearP n, monP n, dayP n, (clk x).1, (clk x).2.1, (clk x).2.2.1] ++ [90]
theorem clk_bd (x : Int) : 0 ≤ (clk x).1 ∧ (clk x).1 ≤ 23 ∧ 0 ≤ (clk x).2.1 ∧ (clk x).2.1 ≤ 59 ∧ 0 ≤ (clk x).2.2.1 ∧ (clk x).2.2.1 ≤ 60 := by
  unfold clk
  split
  · simp
  · split
    · simp
    · simp only; omega
theorem sStText (n x : Int) (hn : -719162 ≤ n ∧ n ≤ 2932896) (hx : 0 ≤ x ∧ x ≤ 86400) {K} (h : K (S (stampC n x)) true) : Xstamp_Text n x K := by
  unfold Xstamp_Text Ystamp_Text
  refine sday n ?_
  rw [if_pos hn]
  refine sClk x ?_
  have hc := clk_bd x
  have ht : (clk x).2.2.2 = true := by
    unfold clk
    rw [if_neg (by omega)]
    split <;> rfl
  obtain ⟨⟨v1, v2, v3, v4, v5, v6⟩, _⟩ := num_date hn.1 hn.2
  have := dim_bd (yearP n) (monP n)
  rw [if_neg (by simp), ht, if_neg (by simp)]
  have := kFill [48, 48, 48, 48, 45, 48, 48, 45, 48, 48, 84, 48, 48, 58, 48, 48, 58, 48, 48] [yearP n, monP n, dayP n, (clk x).1, (clk x).2.1, (clk x).2.2.1] (by decide) (by simp) (fun m hm => by
    simp only [List.mem_cons, List.not_mem_nil, or_false] at hm
    rcases hm with rfl | rfl | rfl | rfl | rfl | rfl <;> omega) (show 5 < 6 by decide) (K := fun r10 => if ((ByteArray.size r10 + 1 : Nat) : Int) > 9223372036854775807 then False else K (r10 ++ S [90]) true) (by
    rw [if_neg (by rw [S_size]; simp [fillL, fillR]), S_append]; exact h)
  exact this
end Go.Proofs.YtodmkipcgfodkaaGreatDoor
end
section
set_option linter.unusedVariables false
set_option linter.unusedSimpArgs false
namespace Go.Proofs.YtodmkipcgfodkaaGreatDoor
open Go Go.Proofs.YtodmkipcgfodkaaGreatDoor.Eng Go.Proofs.YtodmkipcgfodkaaGreatDoor.Pl
set_option linter.unusedVariables false
set_option linter.unusedSimpArgs false
set_option maxRecDepth 100000
set_option maxHeartbeats 2000000
def RV (l : List Rec) : List V := l.map eRec
def TV (l : List Ty) : List V := l.map eTy
theorem RV_len (l : List Rec) : (RV l).length = l.length := by simp [RV]
theorem TV_len (l : List Ty) : (TV l).length = l.length := by simp [TV]
theorem asR1 {l : List Rec} {i : Nat} (h : i < l.length) {F : Prop} {K : Int → Prop} (hk : K (l[i]).1) : Eng.asInt .i64 (getC (RV l) i 0) F K := by
  have : getC (RV l) i 0 = some (.c (.int .i64 (l[i]).1)) := by simp [getC, RV, eRec, V.cells, h]
  rw [this]; simpa [Eng.asInt] using hk
theorem asR2 {l : List Rec} {i : Nat} (h : i < l.length) {F : Prop} {K : Int → Prop} (hk : K (l[i]).2) : Eng.asInt .i64 (getC (RV l) i 1) F K := by
  have : getC (RV l) i 1 = some (.c (.int .i64 (l[i]).2)) := by simp [getC, RV, eRec, V.cells, h]
  rw [this]; simpa [Eng.asInt] using hk
theorem asT1 {l : List Ty} {i : Nat} (h : i < l.length) {F : Prop} {K : Int → Prop} (hk : K (l[i]).1) : Eng.asInt .i64 (getC (TV l) i 0) F K := by
  have : getC (TV l) i 0 = some (.c (.int .i64 (l[i]).1)) := by simp [getC, TV, eTy, V.cells, h]
  rw [this]; simpa [Eng.asInt] using hk
theorem asT2 {l : List Ty} {i : Nat} (h : i < l.length) {F : Prop} {K : Bool → Prop} (hk : K (l[i]).2.1) : Eng.asBool (getC (TV l) i 1) F K := by
  have : getC (TV l) i 1 = some (.c (.bool (l[i]).2.1)) := by simp [getC, TV, eTy, V.cells, h]
  rw [this]; simpa [Eng.asBool] using hk
theorem asT3 {l : List Ty} {i : Nat} (h : i < l.length) {F : Prop} {K : ByteArray → Prop} (hk : K (S (l[i]).2.2)) : Eng.asStr (getC (TV l) i 2) F K := by
  have : getC (TV l) i 2 = some (.c (.string (S (l[i]).2.2))) := by simp [getC, TV, eTy, V.cells, h]
  rw [this]; simpa [Eng.asStr] using hk
theorem w64_hi {n : Int} (h0 : 9223372036854775807 < n) (h1 : n ≤ 18446744073709551615) : w64 n = n - 18446744073709551616 := by
  simp only [w64, IntKind.wrap, IntKind.bits, IntKind.signed]
  try simp
  try omega
theorem w64_lo {n : Int} (h0 : -18446744073709551616 ≤ n) (h1 : n < -9223372036854775808) : w64 n = n + 18446744073709551616 := by
  simp only [w64, IntKind.wrap, IntKind.bits, IntKind.signed]
  try simp
  try omega
def i64r (n : Int) : Prop := -9223372036854775808 ≤ n ∧ n ≤ 9223372036854775807
instance (n : Int) : Decidable (i64r n) := inferInstanceAs (Decidable (_ ∧ _))
def recI (l : List Rec) : Prop := ∀ c ∈ l, i64r c.1 ∧ i64r c.2
theorem ssub (a b : Int) (ha : i64r a) (hb : i64r b) {K : Int → Bool → Prop} (h1 : i64r (a - b) → K (a - b) true) (h2 : ¬ i64r (a - b) → K 0 false) : Xnum_Sub a b K := by
  unfold Xnum_Sub Ynum_Sub
  unfold i64r at *
  simp only [lt]
  by_cases e : -9223372036854775808 ≤ a - b ∧ a - b ≤ 9223372036854775807
  · rw [w64_in e.1 e.2]
    have : (!decide (a - b < a) == decide (b > 0)) = false := by
      by_cases hb0 : b > 0
      · simp [hb0]; omega
      · simp [hb0]; omega
    rw [this]
    exact h1 e
  · by_cases hb0 : b > 0
    · rw [w64_lo (by omega) (by omega)]
      have : (!decide (a - b + 18446744073709551616 < a) == decide (b > 0)) = true := by simp [hb0]; omega
      rw [this, if_pos rfl, if_pos (by simp; omega)]
      exact h2 e
    · rw [w64_hi (by omega) (by omega)]
      have : (!decide (a - b - 18446744073709551616 < a) == decide (b > 0)) = true := by simp [hb0]; omega
      rw [this, if_pos rfl, if_pos (by simp; omega)]
      exact h2 e
theorem recOk_cons (k : Nat) (b c : Rec) (r : List Rec) : recOk k b (c :: r) = true ↔ (k ≤ 200 ∧ 0 ≤ c.1 ∧ ((c.2 - b.2 = 0 ∧ r = []) ∨ c.2 - b.2 = 1 ∨ c.2 - b.2 = -1) ∧ (k = 0 ∨ ((c.2 - b.2 = 0 ∧ r = []) ∧ c.1 - b.1 ≥ 0) ∨ (¬ (c.2 - b.2 = 0 ∧ r = []) ∧ c.1 - b.1 ≥ 2419199))) ∧ recOk (k + 1) c r = true := by
  rw [recOk]
  simp only [Bool.and_eq_true, Bool.or_eq_true, decide_eq_true_eq, List.isEmpty_iff]
  by_cases he : c.2 - b.2 = 0 ∧ r = []
  · simp only [he, and_self, if_true, true_or, true_and, not_true, false_and, or_false]
    constructor
    · rintro ⟨⟨⟨⟨h1, h2⟩, _⟩, h4⟩, h5⟩; exact ⟨⟨h1, h2, h4⟩, h5⟩
    · rintro ⟨⟨h1, h2, h4⟩, h5⟩; exact ⟨⟨⟨⟨h1, h2⟩, trivial⟩, h4⟩, h5⟩
  · simp only [he, false_or, if_false, false_and, not_false_iff, true_and]
    constructor
    · rintro ⟨⟨⟨⟨h1, h2⟩, h3⟩, h4⟩, h5⟩; exact ⟨⟨h1, h2, h3, h4⟩, h5⟩
    · rintro ⟨⟨h1, h2, h3, h4⟩, h5⟩; exact ⟨⟨⟨⟨h1, h2⟩, h3⟩, h4⟩, h5⟩
theorem sRecRight (l : List Rec) (hi : recI l) (hlen : l.length ≤ 100000) {K : Bool → Prop} (h : K (recRight l)) : Xrecord_Right (RV l) K := by
  unfold Xrecord_Right Yrecord_Right Xrecord_Check Yrecord_Check
  rw [RV_len]
  refine lp_ind (fun x => (l.length : Nat) - x.1.2.2.2.2.2.2.1.toNat) (fun x => ∃ (j : Nat) (b : Rec), j ≤ l.length ∧ x = ((RV l, (0 : Int), (0 : Int), (), RV l, (l.length : Int), (j : Int), ()), (b.1, b.2, ()), ()) ∧ recOk j b (l.drop j) = recRight l ∧ (0 < j → 0 ≤ b.1) ∧ i64r b.1 ∧ i64r b.2) ?_ ⟨0, (-2419199, 0), by omega, rfl, rfl, by omega, by unfold i64r; decide, by unfold i64r; decide⟩
  rintro x ⟨j, b, hj, rfl, hok, hb0, hb1, hb2⟩ k hk
  unfold Lrecord_Check_0
  simp only [decide_eq_true_eq, RV_len]
  by_cases e : j = l.length
  · rw [if_neg (by omega)]
    have : recRight l = true := by rw [← hok, e, List.drop_length]; rfl
    rw [this] at h
    exact h
  · have hj' : j < l.length := by omega
    obtain ⟨hc1, hc2⟩ := hi l[j] (List.getElem_mem hj')
    rw [Int.toNat_natCast, if_pos (by omega), if_pos (by omega)]
    refine asR1 hj' (asR2 hj' ?_)
    have hd : l.drop j = l[j] :: l.drop (j + 1) := List.drop_eq_getElem_cons hj'
    rw [hd] at hok
    have hre : l.drop (j + 1) = [] ↔ j + 1 = l.length := by rw [List.drop_eq_nil_iff]; omega
    have hcons := recOk_cons j b l[j] (l.drop (j + 1))
    rw [hre, hok] at hcons
    generalize l[j] = c at *
    have e1 : w64 ((j : Int) + 1) = ((j + 1 : Nat) : Int) := by rw [w64_in (by omega) (by omega)]; omega
    have e2 : w64 ((l.length : Int) - 1) = (l.length : Int) - 1 := w64_in (by omega) (by omega)
    have bad : ¬ (j ≤ 200 ∧ 0 ≤ c.1 ∧ ((c.2 - b.2 = 0 ∧ j + 1 = l.length) ∨ c.2 - b.2 = 1 ∨ c.2 - b.2 = -1) ∧ (j = 0 ∨ ((c.2 - b.2 = 0 ∧ j + 1 = l.length) ∧ c.1 - b.1 ≥ 0) ∨ (¬ (c.2 - b.2 = 0 ∧ j + 1 = l.length) ∧ c.1 - b.1 ≥ 2419199))) → K false := fun hn => by
      have : recRight l = false := by
        cases hr : recRight l
        · rfl
        · exact absurd (hcons.1 hr).1 hn
      rw [this] at h; exact h
    have good : (j ≤ 200 ∧ 0 ≤ c.1 ∧ ((c.2 - b.2 = 0 ∧ j + 1 = l.length) ∨ c.2 - b.2 = 1 ∨ c.2 - b.2 = -1) ∧ (j = 0 ∨ ((c.2 - b.2 = 0 ∧ j + 1 = l.length) ∧ c.1 - b.1 ≥ 0) ∨ (¬ (c.2 - b.2 = 0 ∧ j + 1 = l.length) ∧ c.1 - b.1 ≥ 2419199))) →
        k ((RV l, (0 : Int), (0 : Int), (), RV l, (l.length : Int), ((j + 1 : Nat) : Int), ()), (c.1, c.2, ()), ()) := fun hg => by
      refine hk _ ⟨j + 1, c, by omega, rfl, ?_, fun _ => hg.2.1, hc1, hc2⟩ ?_
      · rw [Bool.eq_iff_iff]
        exact ⟨fun hr => hcons.2 ⟨hg, hr⟩, fun hr => (hcons.1 hr).2⟩
      · show l.length - ((j + 1 : Nat) : Int).toNat < l.length - ((j : Nat) : Int).toNat
        omega
    clear hcons hok hk h hd hre
    rw [e1, e2]
    have ew : 0 < j → 0 ≤ c.1 → w64 (c.1 - b.1) = c.1 - b.1 := fun h1 h2 => by
      have := hb0 h1
      unfold i64r at *
      exact w64_in (by omega) (by omega)
    refine ssub c.2 b.2 hc2 hb2 (fun hf => ?_) fun hf => ?_
    · generalize c.2 - b.2 = s at *
      simp only [if_true, beq_iff_eq, Bool.not_eq_true', beq_eq_false_iff_ne, ne_eq, bne_iff_ne, not_true, if_false, Bool.not_true, Bool.false_eq_true]
      repeat' split
      all_goals first
        | (refine bad ?_; omega)
        | (refine good ?_; omega)
        | (refine bad ?_; rw [ew (by omega) (by omega)] at *; omega)
        | (refine good ?_; rw [ew (by omega) (by omega)] at *; omega)
    · simp only [if_true, if_false, Bool.not_false, Bool.false_eq_true]
      unfold i64r at hf
      repeat' split
      all_goals (refine bad ?_; omega)
end Go.Proofs.YtodmkipcgfodkaaGreatDoor
end
section
set_option linter.unusedVariables false
set_option linter.unusedSimpArgs false
namespace Go.Proofs.YtodmkipcgfodkaaGreatDoor
open Go Go.Proofs.YtodmkipcgfodkaaGreatDoor.Eng Go.Proofs.YtodmkipcgfodkaaGreatDoor.Pl
set_option linter.unusedVariables false
set_option linter.unusedSimpArgs false
abbrev tupRu (r : Ru) : Int × Int × Int × Int × Int × Unit := (r.k, r.a, r.b, r.c, r.x, ())
abbrev tupFt (f : Ft) : Int × Bool × ByteArray × Int × Bool × ByteArray × Bool × Int × Int × Int × Int × Int × Int × Int × Int × Int × Int × Unit :=
  (f.so, f.sd, S f.sa, f.wo, f.wd, S f.wa, f.has, f.fr.k, f.fr.a, f.fr.b, f.fr.c, f.fr.x, f.to.k, f.to.a, f.to.b, f.to.c, f.to.x, ())
theorem skind (o : Int) (d : Bool) (l : List UInt8) (w : Bool) {K} (h : K (kindR o d l w)) : Xfoot_kind (o, d, S l, ()) w K := by
  unfold Xfoot_kind Yfoot_kind
  refine sabbr l ?_
  unfold kindR at h
  simp only [ge_iff_le, decide_eq_true_eq, beq_iff_eq]
  by_cases e1 : abbrL l = true
  · refine ifT e1 ?_
    by_cases e2 : d = w
    · refine ifT e2 ?_
      simp only [e1, e2, beq_self_eq_true, Bool.true_and] at h
      refine ifC (fun e3 => cast (congrArg K ?_) h) fun e3 => cast (congrArg K ?_) h
      · simp [e3]
      · simp [e3]
    · exact ifF e2 (cast (congrArg K (by simp [e2])) h)
  · exact ifF e1 (cast (congrArg K (by simp [e1])) h)
theorem sfootRight (f : Ft) {K} (h : K f.ok) : Xfoot_Right (tupFt f) K := by
  unfold Xfoot_Right Yfoot_Right
  refine skind _ _ _ _ ?_
  unfold Ft.ok at h
  by_cases e1 : kindR f.so f.sd f.sa false = true
  · refine ifF (by simp [e1]) ?_
    rw [e1, Bool.true_and] at h
    refine ifC (fun e2 => ?_) fun e2 => ?_
    · rw [if_pos e2] at h
      refine skind _ _ _ _ ?_
      by_cases e3 : kindR f.wo f.wd f.wa true = true
      · refine ifT e3 (sruleRight _ _ _ _ _ ?_)
        rw [e3, Bool.true_and] at h
        by_cases e4 : f.fr.ok = true
        · refine ifT e4 (sruleRight _ _ _ _ _ ?_)
          rw [e4, Bool.true_and] at h
          exact h
        · exact ifF e4 (cast (congrArg K (by simp [e4])) h)
      · exact ifF e3 (cast (congrArg K (by simp [e3])) h)
    · rw [if_neg e2] at h
      have key : ∀ z : Bool, (z = true ↔ f.bare) → K z := fun z hz => cast (congrArg K (Bool.eq_iff_iff.2 (decide_eq_true_iff.trans hz.symm))) h
      have e2' : f.has = false := by simpa using e2
      simp only [lt]
      refine key _ ?_
      unfold Ft.bare
      simp [e2', S_toList]
      constructor <;> intro hh <;> simp [hh]
  · exact ifT (by simpa using e1) (cast (congrArg K (by simp [e1])) h)
theorem splain (n : Int) {K} (h : K (decide ((97 ≤ n ∧ n ≤ 122) ∨ (65 ≤ n ∧ n ≤ 90)))) : Xfoot_plain n K := by
  unfold Xfoot_plain Yfoot_plain
  simp only [decide_eq_true_eq, ge_iff_le]
  repeat' (first | refine ifT (by omega) ?_ | refine ifF (by omega) ?_ | refine ifC (fun _ => ?_) (fun _ => ?_))
  all_goals (refine cast (congrArg K ?_) h; apply Bool.eq_iff_iff.2; simp only [decide_eq_true_eq, Bool.false_eq_true, true_iff, iff_true, iff_false]; omega)
theorem letQ (c : UInt8) : (!decide ((97 ≤ (c.toNat : Int) ∧ (c.toNat : Int) ≤ 122) ∨ (65 ≤ (c.toNat : Int) ∧ (c.toNat : Int) ≤ 90))) = !letC c := by
  unfold letC; congr 1; apply Bool.eq_iff_iff.2; simp; omega
theorem letH (c : UInt8) (hc : 128 ≤ c.toNat) : (!letC c) = true := by
  unfold letC; simp; omega
theorem sname (l : List UInt8) (hl : l.length ≤ 140737488351232) {a1 a2 a3 a4 a5 a6 a7 a8 a9 a10 a11 a12 a13 a14 a15 a16 a17} {K} (h : K (S (nameP l).1) (nameP l).2.1 (S (nameP l).2.2) a1 a2 a3 a4 a5 a6 a7 a8 a9 a10 a11 a12 a13 a14 a15 a16 a17) : Xfoot_reader_name (S l) a1 a2 a3 a4 a5 a6 a7 a8 a9 a10 a11 a12 a13 a14 a15 a16 a17 K := by
  unfold Xfoot_reader_name Yfoot_reader_name
  refine sCutPrefix _ _ ?_
  unfold nameP at h
  unfold cutP
  by_cases e : l.head? = some 60
  · rw [if_pos e] at h ⊢
    refine ifT rfl (sCut _ _ (by rw [List.length_tail]; omega) ?_)
    generalize splitL 62 l.tail = p at *
    obtain ⟨p1, p2, p3⟩ := p
    simp only at h ⊢
    cases p3
    · simp only [Bool.false_and] at h
      exact ifF (by simp) h
    · simp only [Bool.true_and] at h
      exact ifT rfl (sabbr _ h)
  · rw [if_neg e] at h ⊢
    refine ifF (by simp) ?_
    unfold Xstrings_IndexFunc_1 Ystrings_IndexFunc_1 Xstrings_indexFunc_1
    have sn : ∀ (n : Int) {K : Bool → Prop}, K (!decide ((97 ≤ n ∧ n ≤ 122) ∨ (65 ≤ n ∧ n ≤ 90))) → Xfoot_reader_name_1 n K := fun n K h => by
      unfold Xfoot_reader_name_1 Yfoot_reader_name_1; exact splain n h
    refine sIndexFunc (fun c => !letC c) (fun c K hc h => sn _ (cast (congrArg K (letQ c).symm) h)) (fun n K hn h => sn _ (cast (congrArg K ?_) h)) letH l ?_
    · symm; simp; omega
    · have hn := nl_le (fun c => !letC c) l
      generalize nl (fun c => !letC c) l = k at *
      simp only [S_size, S_extract, decide_eq_true_eq, List.drop_zero, Nat.sub_zero, take_all, Int.toNat_natCast]
      by_cases e2 : k < l.length
      · rw [if_pos e2]
        simp only [Int.toNat_natCast, take_all, List.drop_zero, Nat.sub_zero]
        exact ifF (by omega) (ifT (by omega) (ifT (by omega) (ifT (by omega) (ifT (by omega) (sabbr _ h)))))
      · rw [if_neg e2]
        have : k = l.length := by omega
        subst this
        refine ifT (by omega) (ifT (by omega) (ifT (by omega) (ifT (by omega) (sabbr _ ?_))))
        exact h
theorem name_len (l : List UInt8) : (nameP l).2.2.length ≤ l.length ∧ (nameP l).1.length ≤ l.length := by
  unfold nameP splitL
  repeat' split
  all_goals simp
  all_goals omega
theorem time_bd (l : List UInt8) : -604799 ≤ (timeL l).1 ∧ (timeL l).1 ≤ 604799 ∧ (timeL l).2.1.length ≤ l.length := by
  obtain ⟨j, _, e, _, h1, h2, _⟩ := time_drop l
  rw [e, List.length_drop]; exact ⟨h1, h2, by omega⟩
theorem susual (l : List UInt8) (hl : l.length ≤ 140737488351232) {a1 a2 a3 a4 a5 a6 a7 a8 a9 a10 a11 a12 a13 a14 a15 a16 a17} {K} (h : K (usualP l).ok (S (usualP l).rest) (usualP l).o false (S (usualP l).a) a4 a5 a6 a7 a8 a9 a10 a11 a12 a13 a14 a15 a16 a17) : Xfoot_reader_usual (S l) a1 a2 a3 a4 a5 a6 a7 a8 a9 a10 a11 a12 a13 a14 a15 a16 a17 K := by
  unfold Xfoot_reader_usual Yfoot_reader_usual
  have hn := name_len l
  refine sname l hl (stime _ (by omega) ?_)
  have ht := time_bd (nameP l).2.2
  rw [w64_in (by omega) (by omega), Int.zero_sub]
  unfold usualP at h
  simp only at h
  by_cases e : (nameP l).2.1 = true
  · rw [e, Bool.true_and] at h
    exact ifT e h
  · rw [Bool.eq_false_iff.2 e, Bool.false_and] at h
    exact ifF e h
theorem ssummer (l : List UInt8) (hl : l.length ≤ 140737488351232) {a1 a2 a3 a4 a5 a6 a7 a8 a9 a10 a11 a12 a13 a14 a15 a16 a17} (ha : -604799 ≤ a1 ∧ a1 ≤ 604799) {K} (h : K (summerP a1 l).ok (S (summerP a1 l).rest) a1 a2 a3 (summerP a1 l).o true (S (summerP a1 l).a) true a8 a9 a10 a11 a12 a13 a14 a15 a16 a17) : Xfoot_reader_summer (S l) a1 a2 a3 a4 a5 a6 a7 a8 a9 a10 a11 a12 a13 a14 a15 a16 a17 K := by
  unfold Xfoot_reader_summer Yfoot_reader_summer
  have hn := name_len l
  refine sname l hl (stime _ (by omega) ?_)
  have ht := time_bd (nameP l).2.2
  rw [w64_in (n := 0 - _) (by omega) (by omega), Int.zero_sub, w64_in (by omega) (by omega)]
  unfold summerP at h
  by_cases e : (timeL (nameP l).2.2).2.2 = true
  · rw [if_pos e] at h
    exact ifT e h
  · rw [if_neg e] at h
    exact ifF e h
theorem cut_len (c : UInt8) (l : List UInt8) : (cutP c l).1.length ≤ l.length := by
  unfold cutP; split
  · rw [List.length_tail]; omega
  · exact Nat.le_refl _
theorem srule (l : List UInt8) (hl : l.length ≤ 140737488351232) {a1 a2 a3 a4 a5 a6 a7 a8 a9 a10 a11 a12 a13 a14 a15 a16 a17} {K} (h : K (ruleP l).ok (S (ruleP l).rest) a1 a2 a3 a4 a5 a6 a7 (ruleP l).r.k (ruleP l).r.a (ruleP l).r.b (ruleP l).r.c (ruleP l).r.x a13 a14 a15 a16 a17) : Xfoot_reader_rule (S l) a1 a2 a3 a4 a5 a6 a7 a8 a9 a10 a11 a12 a13 a14 a15 a16 a17 K := by
  unfold Xfoot_reader_rule Yfoot_reader_rule
  have hc := cut_len 44 l
  refine sCutPrefix _ _ (sruleParse _ (by omega) ?_)
  unfold ruleP at h
  simp only at h
  by_cases e : (parseL (cutP 44 l).1).2.2.2.2.2.2 = true
  · rw [e, Bool.true_and] at h
    exact ifT e h
  · rw [Bool.eq_false_iff.2 e, Bool.false_and] at h
    exact ifF e h
theorem srule1 (l : List UInt8) (hl : l.length ≤ 140737488351232) {a1 a2 a3 a4 a5 a6 a7 a8 a9 a10 a11 a12 a13 a14 a15 a16 a17} {K} (h : K (ruleP l).ok (S (ruleP l).rest) a1 a2 a3 a4 a5 a6 a7 a8 a9 a10 a11 a12 (ruleP l).r.k (ruleP l).r.a (ruleP l).r.b (ruleP l).r.c (ruleP l).r.x) : Xfoot_reader_rule_1 (S l) a1 a2 a3 a4 a5 a6 a7 a8 a9 a10 a11 a12 a13 a14 a15 a16 a17 K := by
  unfold Xfoot_reader_rule_1 Yfoot_reader_rule_1
  have hc := cut_len 44 l
  refine sCutPrefix _ _ (sruleParse _ (by omega) ?_)
  unfold ruleP at h
  simp only at h
  by_cases e : (parseL (cutP 44 l).1).2.2.2.2.2.2 = true
  · rw [e, Bool.true_and] at h
    exact ifT e h
  · rw [Bool.eq_false_iff.2 e, Bool.false_and] at h
    exact ifF e h
theorem rule_len (l : List UInt8) : (ruleP l).rest.length ≤ l.length := by
  have hc := cut_len 44 l
  unfold ruleP
  simp only
  cases e : (parseL (cutP 44 l).1).2.2.2.2.2.2
  · rw [parse_bad _ e]; exact hc
  · obtain ⟨_, j, _, h1, h2⟩ := parse_good _ e
    rw [h2, List.length_drop]; omega
theorem usual_len (l : List UInt8) : (usualP l).rest.length ≤ l.length ∧ -604799 ≤ (usualP l).o ∧ (usualP l).o ≤ 604799 := by
  have hn := name_len l
  have ht := time_bd (nameP l).2.2
  unfold usualP
  simp only
  omega
theorem summer_len (so : Int) (l : List UInt8) : (summerP so l).rest.length ≤ l.length := by
  have hn := name_len l
  have ht := time_bd (nameP l).2.2
  unfold summerP
  split <;> simp only <;> omega
theorem sfootParse (l : List UInt8) (hl : l.length ≤ 140737488351232) {K} (h : K (tupFt (Ft.parse l).1) (Ft.parse l).2) : Xfoot_Parse (S l) K := by
  unfold Xfoot_Parse Yfoot_Parse
  have hu := usual_len l
  have hs := summer_len (usualP l).o (usualP l).rest
  have hr := rule_len (summerP (usualP l).o (usualP l).rest).rest
  refine susual l hl ?_
  unfold Ft.parse at h
  by_cases e1 : (usualP l).ok = true
  · rw [if_pos e1] at h
    refine ifF (by simp [e1]) ?_
    simp only [S_toList]
    by_cases e2 : (usualP l).rest = []
    · rw [if_pos e2] at h
      refine ifT (by simp [e2]) (ifF (by simp [e2]) (sfootRight ⟨(usualP l).o, false, (usualP l).a, 0, false, [], false, .z, .z⟩ ?_))
      unfold Ft.chk at h
      refine ifC (fun e3 => ?_) fun e3 => ?_
      · rw [if_neg (by simpa using e3)] at h; exact h
      · rw [if_pos (by simpa using e3)] at h; exact h
    · rw [if_neg e2] at h
      refine ifF (by simp [e2]) (ssummer _ (by omega) (by omega) ?_)
      by_cases e3 : (summerP (usualP l).o (usualP l).rest).ok = true
      · rw [if_pos e3] at h
        refine ifF (by simp [e3]) ?_
        unfold Xfoot_reader_from Yfoot_reader_from
        refine srule _ (by omega) ?_
        by_cases e4 : (ruleP (summerP (usualP l).o (usualP l).rest).rest).ok = true
        · rw [if_pos e4] at h
          refine ifF (by simp [e4]) ?_
          unfold Xfoot_reader_to Yfoot_reader_to
          refine srule1 _ (by omega) ?_
          by_cases e5 : (ruleP (ruleP (summerP (usualP l).o (usualP l).rest).rest).rest).ok = true
          · rw [if_pos e5] at h
            refine ifF (by simp [e5]) ?_
            simp only [S_toList]
            by_cases e6 : (ruleP (ruleP (summerP (usualP l).o (usualP l).rest).rest).rest).rest = []
            · rw [if_pos e6] at h
              refine ifF (by simp [e6]) (sfootRight ⟨(usualP l).o, false, (usualP l).a, (summerP (usualP l).o (usualP l).rest).o, true, (summerP (usualP l).o (usualP l).rest).a, true, (ruleP (summerP (usualP l).o (usualP l).rest).rest).r, (ruleP (ruleP (summerP (usualP l).o (usualP l).rest).rest).rest).r⟩ ?_)
              unfold Ft.chk at h
              refine ifC (fun e3 => ?_) fun e3 => ?_
              · rw [if_neg (by simpa using e3)] at h; exact h
              · rw [if_pos (by simpa using e3)] at h; exact h
            · rw [if_neg e6] at h
              exact ifT (by simp [e6]) h
          · rw [if_neg e5] at h
            exact ifT (by simpa using e5) h
        · rw [if_neg e4] at h
          exact ifT (by simpa using e4) h
      · rw [if_neg e3] at h
        exact ifT (by simpa using e3) h
  · rw [if_neg e1] at h
    exact ifT (by simpa using e1) h
end Go.Proofs.YtodmkipcgfodkaaGreatDoor
end
section
set_option linter.unusedVariables false
set_option linter.unusedSimpArgs false
namespace Go.Proofs.YtodmkipcgfodkaaGreatDoor
open Go Go.Proofs.YtodmkipcgfodkaaGreatDoor.Eng Go.Proofs.YtodmkipcgfodkaaGreatDoor.Pl
set_option linter.unusedVariables false
set_option linter.unusedSimpArgs false
set_option maxRecDepth 100000
set_option maxHeartbeats 2000000
theorem RV_cut (l : List Rec) (a n : Nat) : cutL (RV l) a n = RV ((l.drop a).take n) := by simp [cutL, RV]
theorem getD_at {α : Type} (l : List α) (i : Nat) (d : α) (h : i < l.length) : l.getD i d = l[i] := by
  rw [List.getD_eq_getElem?_getD, List.getElem?_eq_getElem h]; rfl
theorem sLeaps (l : List Rec) (hl : l.length ≤ 100000) {K} (h : K (RV (leapsR l)) false true) : Xrecord_leaps (RV l) K := by
  unfold Xrecord_leaps Yrecord_leaps
  simp only [RV_len, beq_iff_eq, decide_eq_true_eq]
  have e1 : w64 ((l.length : Int) - 1) = (l.length : Int) - 1 := w64_in (by omega) (by omega)
  have e2 : w64 ((l.length : Int) - 1 - 1) = (l.length : Int) - 1 - 1 := w64_in (by omega) (by omega)
  rw [e1, e2]
  simp only [lt]
  have cut : ∀ n : Nat, n = l.length - 1 → cutL (RV l) 0 (Int.toNat ((l.length : Int) - 1) - 0) = RV (l.take n) := fun n hn => by
    rw [RV_cut, List.drop_zero]; congr 2; omega
  unfold leapsR at h
  by_cases h1 : l.length = 1
  · have g := getD_at l 0 (0, 0) (by omega)
    have le : lastExp l = ((l[0]'(by omega)).2 == 0) := by
      unfold lastExp
      rw [g]; simp [h1]
    rw [if_pos (by omega), if_pos (by omega)]
    refine asR2 (by omega) ?_
    by_cases h2 : (l[0]'(by omega)).2 = 0
    · rw [if_pos h2, if_pos h2, if_pos (by omega), if_pos (by omega), cut _ rfl]
      rw [le, h2, if_pos (beq_self_eq_true _)] at h
      exact h
    · rw [if_neg h2, if_neg (by omega)]
      rw [le, if_neg (by simpa using h2)] at h
      exact h
  · rw [if_neg (by omega)]
    by_cases h2 : 1 < l.length
    · have g1 := getD_at l (l.length - 1) (0, 0) (by omega)
      have g2 := getD_at l (l.length - 2) (0, 0) (by omega)
      have le : lastExp l = ((l[l.length - 1]'(by omega)).2 == (l[l.length - 2]'(by omega)).2) := by
        unfold lastExp
        rw [g1, g2]; simp [h1, h2]
      rw [if_pos (by omega), if_pos (by omega)]
      have t1 : Int.toNat ((l.length : Int) - 1) = l.length - 1 := by omega
      have t2 : Int.toNat ((l.length : Int) - 1 - 1) = l.length - 2 := by omega
      rw [t1, t2] at *
      refine asR2 (by omega) ?_
      rw [if_pos (by omega)]
      refine asR2 (by omega) ?_
      by_cases h3 : (l[l.length - 1]'(by omega)).2 = (l[l.length - 2]'(by omega)).2
      · have cut2 : cutL (RV l) 0 (l.length - 1 - 0) = RV (l.take (l.length - 1)) := by rw [RV_cut]; simp
        rw [if_pos h3, if_pos (by omega), if_pos (by omega), cut2]
        rw [le, h3, if_pos (beq_self_eq_true _)] at h
        exact h
      · rw [if_neg h3]
        rw [le, if_neg (by simpa using h3)] at h
        exact h
    · have le : lastExp l = false := by
        unfold lastExp
        simp [h1, h2]
      rw [if_neg (by omega)]
      rw [le, if_neg (by simp)] at h
      exact h
theorem lastExp_pos {l : List Rec} (h : lastExp l = true) : 1 ≤ l.length := by
  unfold lastExp at h
  simp only [Bool.or_eq_true, Bool.and_eq_true, decide_eq_true_eq] at h
  omega
theorem leapsR_len (l : List Rec) : (leapsR l).length = if lastExp l = true then l.length - 1 else l.length := by
  unfold leapsR
  split
  · rw [List.length_take]; omega
  · rfl
theorem sExpiry (l : List Rec) (hl : l.length ≤ 100000) {K : Int → Bool → Prop} (h : ∀ n, K n (lastExp l)) : Xrecord_Expiry (RV l) K := by
  unfold Xrecord_Expiry Yrecord_Expiry
  refine sLeaps l hl ?_
  simp only [RV_len, decide_eq_true_eq, leapsR_len]
  cases e : lastExp l
  · rw [if_neg (by simp)]
    have := h 0
    rw [e] at this; exact this
  · have := lastExp_pos e
    rw [if_pos (by simp; omega), if_pos (by simp; omega)]
    simp only [if_true, Int.toNat_natCast]
    refine asR1 (by omega) ?_
    have := h (l[l.length - 1]'(by omega)).1
    rw [e] at this; exact this
/-- Names that were laid, and where. -/
def hadM (hs : List (List UInt8 × Int)) : List (Value × V) := hs.map fun x => (.string (S x.1), .c (.int .i64 x.2))
theorem bs_beq (a b : List UInt8) : (S a == S b) = (a == b) := by
  rw [Bool.eq_iff_iff, MapKept.bytes_beq, beq_iff_eq]
  constructor
  · intro h
    rw [← S_toList a, ← S_toList b, h]
  · intro h; rw [h]
theorem get_had (s : List UInt8) : ∀ hs : List (List UInt8 × Int), mpGet (S s) (hadM hs) = some ((hs.find? fun x => x.1 == s).map fun x => V.c (.int .i64 x.2))
  | [] => rfl
  | x :: hs => by
    show (bif S s == S x.1 then _ else _) = _
    rw [bs_beq, List.find?_cons]
    by_cases e : s = x.1
    · rw [e]; simp
    · have e1 : (s == x.1) = false := by simpa using e
      have e2 : (x.1 == s) = false := by simpa using Ne.symm e
      rw [e1, e2]
      exact get_had s hs
theorem put_had (s : List UInt8) (p : Int) : ∀ hs : List (List UInt8 × Int), hs.find? (fun x => x.1 == s) = none → mpPut (S s) (.c (.int .i64 p)) (hadM hs) = hadM (hs ++ [(s, p)])
  | [], _ => rfl
  | x :: hs, h => by
    rw [List.find?_cons] at h
    cases e : (x.1 == s)
    · rw [e] at h
      have e1 : (s == x.1) = false := by
        rw [beq_eq_false_iff_ne] at e ⊢; exact Ne.symm e
      show (bif S s == S x.1 then _ else _) = _
      rw [bs_beq, e1]
      show _ :: mpPut (S s) _ (hadM hs) = _
      rw [put_had s p hs h]; rfl
    · rw [e] at h; cases h
theorem poolN_congr : ∀ (l a b : List (List UInt8)), (∀ s, a.contains s = b.contains s) → poolN a l = poolN b l
  | [], a, b, h => rfl
  | s :: r, a, b, h => by
    rw [poolN, poolN, h s]
    split
    · exact poolN_congr r a b h
    · rw [poolN_congr r (s :: a) (s :: b) fun t => by simp only [List.contains_cons, h t]]
theorem poolN_le : ∀ (l a : List (List UInt8)), (∀ s ∈ l, s.length ≤ 10000) → poolN a l ≤ 10001 * l.length
  | [], a, h => by simp [poolN]
  | s :: r, a, h => by
    rw [poolN, List.length_cons]
    have h1 := h s (.head _)
    split
    · have := poolN_le r a fun t ht => h t (.tail _ ht); omega
    · have := poolN_le r (s :: a) fun t ht => h t (.tail _ ht); omega
def NV (l : List (List UInt8)) : List V := l.map fun s => .c (.string (S s))
theorem NV_len (l : List (List UInt8)) : (NV l).length = l.length := by simp [NV]
theorem asN {l : List (List UInt8)} {i : Nat} (h : i < l.length) {F : Prop} {K : ByteArray → Prop} (hk : K (S l[i])) : Eng.asStr (getC (NV l) i 0) F K := by
  have : getC (NV l) i 0 = some (.c (.string (S l[i]))) := by simp [getC, NV, V.cells, h]
  rw [this]; simpa [Eng.asStr] using hk
theorem room8 (n : Nat) (h : n ≤ 100000000) : roomOk n 8 = true := by
  unfold roomOk; simp only [decide_eq_true_eq]; omega
theorem room16 (n : Nat) (h : n ≤ 100000000) : roomOk n 16 = true := by
  unfold roomOk; simp only [decide_eq_true_eq]; omega
theorem sPool (l : List (List UInt8)) (hl : l.length ≤ 1000) (hs : ∀ s ∈ l, s.length ≤ 10000) {K : ByteArray → Bool → List V → Bool → Bool → Prop}
    (h : ∀ p at' o z, p.size ≤ 100000000 → (l.all abbrL && decide (poolN [] l ≤ 256)) = true → p.size = poolN [] l → K p true at' o z)
    (h' : (l.all abbrL && decide (poolN [] l ≤ 256)) = false → ∀ p at' o z, K p false at' o z) : Xabbr_Pool (NV l) K := by
  unfold Xabbr_Pool Yabbr_Pool
  rw [NV_len]
  refine lp_ind (fun x => l.length - x.1.2.2.2.2.2.2.1.toNat) (fun x => ∃ (j : Nat) (p : List UInt8) (hd : List (List UInt8 × Int)) (at' : List V), j ≤ l.length ∧ x = ((S p, (), false, (), NV l, (l.length : Int), (j : Int), ()), hadM hd, at', ()) ∧
    (l.take j).all abbrL = true ∧ p.length + poolN (hd.map (·.1)) (l.drop j) = poolN [] l ∧ at'.length = j) ?_ ⟨0, [], [], [], by omega, rfl, rfl, by simp, rfl⟩
  rintro x ⟨j, p, hd, at', hj, rfl, hall, hp, hat⟩ k hk
  have hle := poolN_le l [] hs
  unfold Labbr_Pool_0
  simp only [decide_eq_true_eq, NV_len]
  by_cases e : j = l.length
  · rw [if_neg (by omega)]
    rw [e, List.take_length] at hall
    rw [e, List.drop_length] at hp
    have hp' : p.length = poolN [] l := by simpa [poolN] using hp
    by_cases h2 : ((S p).size : Int) > 256
    · rw [if_pos h2]
      rw [S_size] at h2
      exact h' (by rw [hall]; simp; omega) _ _ _ _
    · rw [if_neg h2]
      rw [S_size] at h2
      exact h _ _ _ _ (by rw [S_size]; omega) (by rw [hall]; simp; omega) (by rw [S_size]; exact hp')
  · have hj' : j < l.length := by omega
    rw [Int.toNat_natCast, if_pos (by omega), if_pos (by omega)]
    refine asN hj' ?_
    refine sabbr _ ?_
    have hd' : l.drop j = l[j] :: l.drop (j + 1) := List.drop_eq_getElem_cons hj'
    have ht : l.take (j + 1) = l.take j ++ [l[j]] := List.take_succ_eq_append_getElem hj'
    have hsl := hs l[j] (List.getElem_mem hj')
    have hmem := List.getElem_mem hj'
    rw [hd'] at hp
    generalize l[j] = s at *
    cases ha : abbrL s
    · simp only [Bool.not_false, if_true]
      refine h' ?_ _ _ _ _
      have : l.all abbrL = false := by
        rw [Bool.eq_false_iff]; intro h; rw [List.all_eq_true.1 h s hmem] at ha; cases ha
      rw [this]; rfl
    · simp only [Bool.not_true, Bool.false_eq_true, if_false]
      rw [get_had]
      have hall' : (l.take (j + 1)).all abbrL = true := by rw [ht, List.all_append, hall]; simp [ha]
      have e1 : w64 ((j : Int) + 1) = ((j + 1 : Nat) : Int) := by rw [w64_in (by omega) (by omega)]; omega
      have step : ∀ (p' : List UInt8) (hd2 : List (List UInt8 × Int)) (v : V), p'.length + poolN (hd2.map (·.1)) (l.drop (j + 1)) = poolN [] l → k ((S p', (), false, (), NV l, (l.length : Int), ((j + 1 : Nat) : Int), ()), hadM hd2, at' ++ [v], ()) := fun p' hd2 v hq => by
        refine hk _ ⟨j + 1, p', hd2, at' ++ [v], by omega, rfl, hall', hq, by simp [hat]⟩ ?_
        show l.length - ((j + 1 : Nat) : Int).toNat < l.length - ((j : Nat) : Int).toNat
        omega
      rw [poolN] at hp
      cases hf : hd.find? (fun x => x.1 == s) with
      | none =>
        have hc : (hd.map (·.1)).contains s = false := by
          rw [Bool.eq_false_iff]
          intro hc
          rw [List.contains_iff_mem, List.mem_map] at hc
          obtain ⟨y, hy, hys⟩ := hc
          have := List.find?_eq_none.1 hf y hy
          simp [hys] at this
        rw [hc, if_neg (by simp)] at hp
        simp only [Option.map_none, Eng.asMpI, Bool.not_false, if_true, Option.isSome_some]
        have hps : p.length ≤ 100000000 := by omega
        rw [if_neg (by rw [S_size]; omega)]
        have es : S s ++ ByteArray.mk #[(0 : UInt8)] = S (s ++ [0]) := S_append s [0]
        rw [es, S_append, S_size, S_size, if_neg (by simp; omega)]
        simp only [lt]
        rw [if_pos (room8 _ (by simp; omega)), put_had s _ hd hf, e1]
        refine step (p ++ (s ++ [0])) (hd ++ [(s, (p.length : Int))]) _ ?_
        rw [← hp, poolN_congr (l.drop (j + 1)) _ (s :: hd.map (·.1)) fun t => by
          rw [Bool.eq_iff_iff, List.contains_iff_mem, List.contains_iff_mem, List.map_append, List.mem_append, List.mem_cons]
          simp only [List.map_cons, List.map_nil, List.mem_singleton]
          exact ⟨fun h => h.symm, fun h => h.symm⟩]
        simp only [List.length_append, List.length_singleton]
        omega
      | some y =>
        have hy := List.find?_some hf
        have hc : (hd.map (·.1)).contains s = true := by
          rw [List.contains_iff_mem, List.mem_map]
          exact ⟨y, List.mem_of_find?_eq_some hf, by simpa using hy⟩
        rw [hc, if_pos rfl] at hp
        simp only [Option.map_some, Eng.asMpI, if_true, Bool.not_true, Bool.false_eq_true, if_false]
        rw [if_pos (room8 _ (by simp; omega)), e1]
        exact step p hd _ hp
end Go.Proofs.YtodmkipcgfodkaaGreatDoor
end
section
set_option linter.unusedVariables false
set_option linter.unusedSimpArgs false
namespace Go.Proofs.YtodmkipcgfodkaaGreatDoor
open Go Go.Proofs.YtodmkipcgfodkaaGreatDoor.Eng Go.Proofs.YtodmkipcgfodkaaGreatDoor.Pl
set_option linter.unusedVariables false
set_option linter.unusedSimpArgs false
set_option maxRecDepth 100000
set_option maxHeartbeats 2000000
/-- A zone as it comes in: whole numbers that go, rows that are not too long. -/
structure ZI (z : Zn) : Prop where
  ty : z.ty.length ≤ 100
  tr : z.tr.length ≤ 300
  lp : z.lp.length ≤ 300
  ft : z.ft.length ≤ 200
  nm : ∀ t ∈ z.ty, t.2.2.length ≤ 100
  ri : recI z.lp
  ti : recI z.tr
  v : i64r z.v
theorem tupZ_eq (z : Zn) : tupZ z = (TV z.ty, RV z.tr, RV z.lp, S z.ft, z.v, ()) := rfl
theorem spool (z : Zn) (h : ZI z) {K : ByteArray → Bool → List V → Bool → Bool → Prop}
    (hk : ∀ p at' o y, p.size ≤ 100000000 → ((z.ty.map (·.2.2)).all abbrL && decide (poolN [] (z.ty.map (·.2.2)) ≤ 256)) = true → p.size = poolN [] (z.ty.map (·.2.2)) → K p true at' o y)
    (hk' : ((z.ty.map (·.2.2)).all abbrL && decide (poolN [] (z.ty.map (·.2.2)) ≤ 256)) = false → ∀ p at' o y, K p false at' o y) : Xblock_pool (tupZ z) K := by
  unfold Xblock_pool Yblock_pool
  simp only [tupZ_eq, TV_len]
  refine lp_at (fun j => ((ByteArray.mk #[], (), false, (), TV z.ty, (z.ty.length : Int), (j : Int), ()), NV ((z.ty.map (·.2.2)).take j), ())) z.ty.length rfl fun n hn k hkk => ?_
  unfold Lblock_pool_0
  simp only [decide_eq_true_eq, TV_len]
  by_cases e : n = z.ty.length
  · rw [if_neg (by omega), List.take_of_length_le (by simp; omega)]
    refine sPool _ (by have := h.ty; simp; omega) (fun s hs => ?_) hk hk'
    obtain ⟨t, ht, rfl⟩ := List.mem_map.1 hs
    have := h.nm t ht; omega
  · have hn' : n < z.ty.length := by omega
    have hk' := hkk hn'
    have e1 : w64 ((n : Int) + 1) = ((n + 1 : Nat) : Int) := by have := h.ty; rw [w64_in (by omega) (by omega)]; omega
    rw [Int.toNat_natCast, if_pos (by omega), if_pos (by omega)]
    refine asT1 hn' (asT2 hn' (asT3 hn' ?_))
    rw [if_pos (room16 _ (by rw [NV_len]; have := h.ty; simp; omega)), e1]
    refine (congrArg k ?_).mp hk'
    have : NV ((z.ty.map (·.2.2)).take (n + 1)) = NV ((z.ty.map (·.2.2)).take n) ++ [.c (.string (S (z.ty[n]).2.2))] := by
      rw [List.take_succ_eq_append_getElem (by simpa using hn')]
      simp [NV]
    rw [this]
theorem hwithin (n a b : Int) {K : Bool → Prop} (h : K (nin n a b)) : Xhead_within n a b K := by
  unfold Xhead_within Yhead_within
  unfold nin at h
  simp only [decide_eq_true_eq]
  by_cases h1 : n ≥ a
  · rw [if_pos h1]
    have : decide (a ≤ n ∧ n ≤ b) = decide (n ≤ b) := by simp; intro _; omega
    rw [this] at h; exact h
  · rw [if_neg h1]
    have : decide (a ≤ n ∧ n ≤ b) = false := by simp; omega
    rw [this] at h; exact h
theorem shead (v lp tr ty ch : Int) {K : Bool → Prop} (h : K (nin lp 0 201 && nin tr 0 2000 && nin ty 1 64 && nin ch 1 256 && nin v 1 4)) : Xhead_Right (v, 0, 0, lp, tr, ty, ch, ()) K := by
  unfold Xhead_Right Yhead_Right
  refine hwithin _ _ _ ?_
  cases h1 : nin lp 0 201
  · rw [h1] at h
    simp only [Bool.false_and] at h
    simp only [Bool.false_eq_true, if_false, beq_self_eq_true, if_true]
    exact h
  rw [h1] at h
  rw [if_pos rfl]
  refine hwithin _ _ _ ?_
  cases h2 : nin tr 0 2000
  · rw [h2] at h
    simp only [Bool.false_and, Bool.and_false] at h
    simp only [Bool.false_eq_true, if_false, beq_self_eq_true, if_true]
    exact h
  rw [h2] at h
  rw [if_pos rfl]
  refine hwithin _ _ _ ?_
  cases h3 : nin ty 1 64
  · rw [h3] at h
    simp only [Bool.false_and, Bool.and_false] at h
    simp only [Bool.false_eq_true, if_false, beq_self_eq_true, if_true]
    exact h
  rw [h3] at h
  rw [if_pos rfl]
  refine hwithin _ _ _ ?_
  simp only [beq_self_eq_true, if_true]
  cases h4 : nin ch 1 256
  · rw [h4] at h
    simp only [Bool.false_and, Bool.and_false] at h
    simp only [Bool.false_eq_true, if_false]
    exact h
  rw [h4] at h
  rw [if_pos rfl]
  refine hwithin _ _ _ ?_
  simpa using h
theorem scount (z : Zn) (h : ZI z) {K : Int × Int × Int × Int × Int × Int × Int × Unit → Bool → Prop} (hk : ∀ r, K r (countOk z)) : Xblock_Count (tupZ z) K := by
  unfold Xblock_Count Yblock_Count
  have hk1 : ∀ r b, b = countOk z → K r b := fun r b e => e ▸ hk r
  refine spool z h (fun p at' o y hp hok hsz => ?_) fun hbad p at' o y => ?_
  · rw [if_neg (by simp)]
    simp only [tupZ_eq, TV_len, RV_len, hsz]
    refine shead _ _ _ _ _ ?_
    have e : countOk z = (nin z.lp.length 0 201 && nin z.tr.length 0 2000 && nin z.ty.length 1 64 && nin (poolN [] (z.ty.map (·.2.2)) : Nat) 1 256 && nin z.v 1 4) := by
      unfold countOk
      rw [hok, Bool.true_and]
    cases hb : (nin z.lp.length 0 201 && nin z.tr.length 0 2000 && nin z.ty.length 1 64 && nin (poolN [] (z.ty.map (·.2.2)) : Nat) 1 256 && nin z.v 1 4)
    · rw [if_pos (show (!false) = true from rfl)]; exact hk1 _ _ (by rw [e, hb])
    · rw [if_neg (by simp)]; exact hk1 _ _ (by rw [e, hb])
  · rw [if_pos (show (!false) = true from rfl)]
    refine hk1 _ _ ?_
    unfold countOk
    rw [hbad]; simp
theorem sallT (l : List Ty) (hl : l.length ≤ 100000) {K : Bool → Prop} (h : K (l.all (fun t => decide (-89999 ≤ t.1 ∧ t.1 ≤ 93599)))) : Xzone_all_api_Type_ (TV l) K := by
  unfold Xzone_all_api_Type_ Yzone_all_api_Type_
  rw [TV_len]
  refine lp_ind (fun x => l.length - x.1.2.2.2.2.1.toNat) (fun x => ∃ j : Nat, j ≤ l.length ∧ x = ((((), ()), false, TV l, (l.length : Int), (j : Int), ()), ()) ∧ (l.take j).all (fun t => decide (-89999 ≤ t.1 ∧ t.1 ≤ 93599)) = true) ?_ ⟨0, by omega, rfl, rfl⟩
  rintro x ⟨j, hj, rfl, hall⟩ k hk
  unfold Lzone_all_api_Type__0
  simp only [decide_eq_true_eq, TV_len]
  by_cases e : j = l.length
  · rw [if_neg (by omega)]
    rw [e, List.take_length] at hall
    rw [hall] at h; exact h
  · have hj' : j < l.length := by omega
    rw [Int.toNat_natCast, if_pos (by omega), if_pos (by omega)]
    refine asT1 hj' (asT2 hj' (asT3 hj' ?_))
    have ht : l.take (j + 1) = l.take j ++ [l[j]] := List.take_succ_eq_append_getElem hj'
    have hmem := List.getElem_mem hj'
    generalize l[j] = t at *
    have e1 : w64 ((j : Int) + 1) = ((j + 1 : Nat) : Int) := by rw [w64_in (by omega) (by omega)]; omega
    unfold Xzone_Right_1 Yzone_Right_1
    simp only [decide_eq_true_eq, e1]
    have bad : ¬ (-89999 ≤ t.1 ∧ t.1 ≤ 93599) → K false := fun hn => by
      have : l.all (fun t => decide (-89999 ≤ t.1 ∧ t.1 ≤ 93599)) = false := by
        rw [Bool.eq_false_iff]; intro hh; exact hn (by simpa using List.all_eq_true.1 hh t hmem)
      rw [this] at h; exact h
    by_cases h1 : t.1 ≥ -89999
    · rw [if_pos h1]
      by_cases h2 : t.1 ≤ 93599
      · rw [if_neg (by simpa using h2)]
        refine hk _ ⟨j + 1, by omega, rfl, ?_⟩ ?_
        · rw [ht, List.all_append, hall]; simp; exact ⟨h1, h2⟩
        · show l.length - ((j + 1 : Nat) : Int).toNat < l.length - ((j : Nat) : Int).toNat
          omega
      · rw [if_pos (by simpa using h2)]; exact bad (by omega)
    · rw [if_neg h1, if_pos (by simp)]; exact bad (by omega)
end Go.Proofs.YtodmkipcgfodkaaGreatDoor
end
section
set_option linter.unusedVariables false
set_option linter.unusedSimpArgs false
namespace Go.Proofs.YtodmkipcgfodkaaGreatDoor
open Go Go.Proofs.YtodmkipcgfodkaaGreatDoor.Eng Go.Proofs.YtodmkipcgfodkaaGreatDoor.Pl
set_option linter.unusedVariables false
set_option linter.unusedSimpArgs false
theorem kind_iff {o : Int} {d : Bool} {l : List UInt8} {w : Bool} : kindR o d l w = true ↔ abbrL l = true ∧ d = w ∧ -89999 ≤ o ∧ o ≤ 89999 := by
  unfold kindR; simp [and_assoc]
theorem abbr_len {l : List UInt8} (h : abbrL l = true) : 3 ≤ l.length ∧ l.length ≤ 16 := by
  unfold abbrL at h; simp at h; omega
theorem sruleAtR (r : Ru) (y : Int) {K} (h : if (1 ≤ y ∧ y ≤ 9999) ∧ r.ok = true then K (r.at y) true else K 0 false) : Xrule_At (tupRu r) y K := by
  refine sruleAt _ _ _ _ _ _ ?_
  by_cases e : (1 ≤ y ∧ y ≤ 9999) ∧ rightR r.k r.a r.b r.c r.x = true
  · have e' : (1 ≤ y ∧ y ≤ 9999) ∧ r.ok = true := e
    rw [if_pos e'] at h
    rw [if_pos e, decide_eq_true e]; exact h
  · have e' : ¬ ((1 ≤ y ∧ y ≤ 9999) ∧ r.ok = true) := e
    rw [if_neg e'] at h
    rw [if_neg e, decide_eq_false e]; exact h
theorem sfootSpan (f : Ft) (y : Int) {K} (h : if f.spans y then K (f.from' y) (f.to' y) true else K 0 0 false) : Xfoot_Span (tupFt f) y K := by
  unfold Xfoot_Span Yfoot_Span
  by_cases eh : f.has = true
  · refine ifF (by simp [eh]) (sfootRight f ?_)
    by_cases e : f.ok = true
    · refine ifF (by simp [e]) (sruleAtR f.fr y ?_)
      have e' := e
      unfold Ft.ok at e'
      rw [if_pos eh, Bool.and_eq_true, Bool.and_eq_true, Bool.and_eq_true] at e'
      obtain ⟨e0, ⟨e1, e2⟩, e3⟩ := e'
      obtain ⟨k1, k2, k3, k4⟩ := kind_iff.1 e0
      obtain ⟨j1, j2, j3, j4⟩ := kind_iff.1 e1
      have r1 := (right_iff _ _ _ _ _).1 e2
      have r2 := (right_iff _ _ _ _ _).1 e3
      by_cases ey : 1 ≤ y ∧ y ≤ 9999
      · have hsp : f.spans y := ⟨eh, e, ey.1, ey.2⟩
        rw [if_pos hsp] at h
        have d1 := ruleDay_bd ey e2
        have d2 := ruleDay_bd ey e3
        have hf := fst_bd ey.1 ey.2
        have hf2 := fst_succ y
        refine ifT ⟨ey, e2⟩ (ifF (by simp) (sruleAtR f.to y (ifT ⟨ey, e3⟩ ?_)))
        unfold Ft.from' Ft.to' at h
        show K (w64 (f.fr.at y - f.so)) (w64 (f.to.at y - f.wo)) true
        unfold Ru.at at h ⊢
        rw [w64_in (by omega) (by omega), w64_in (by omega) (by omega)]
        exact h
      · rw [if_neg (fun h => ey ⟨h.2.2.1, h.2.2.2⟩)] at h
        exact ifF (fun h => ey h.1) (ifT rfl h)
    · rw [if_neg (fun h => e h.2.1)] at h
      exact ifT (by simpa using e) h
  · rw [if_neg (fun h => eh h.1)] at h
    exact ifT (by simpa using eh) h
theorem syear (n : Int) (h0 : -9223372036854775808 ≤ n) (h1 : n ≤ 9223372036854775807) {K} (h : if inDays n then K (yearP (n / 86400)) true else K 0 false) : Xfoot_year n K := by
  rw [Xfoot_year, Yfoot_year]
  refine sdiv _ _ h0 h1 (by omega) (by omega) (sday _ ?_)
  by_cases e : inDays n
  · rw [if_pos e] at h
    exact ifT e h
  · rw [if_neg e] at h
    exact ifF e h
theorem sfootLookup (f : Ft) (p : Int) (hp : -9223372036854775808 ≤ p ∧ p ≤ 9223372036854775807) (ho : -9223372036854775808 ≤ f.so ∧ f.so ≤ 9223372036854775807) {K} (h : if f.sum p then K (f.wo, f.wd, S f.wa, ()) else K (f.so, f.sd, S f.sa, ())) : Xfoot_Lookup (tupFt f) p K := by
  unfold Xfoot_Lookup Yfoot_Lookup
  refine sadd _ _ hp ho ?_
  have std : ¬ f.sum p → K (f.so, f.sd, S f.sa, ()) := fun hn => by rw [if_neg hn] at h; exact h
  have dst : f.sum p → K (f.wo, f.wd, S f.wa, ()) := fun hn => by rw [if_pos hn] at h; exact h
  by_cases e : -9223372036854775808 ≤ p + f.so ∧ p + f.so ≤ 9223372036854775807
  · refine ifT e (syear _ e.1 e.2 ?_)
    by_cases ed : inDays (p + f.so)
    · refine ifT ed (sfootSpan f _ ?_)
      by_cases es : f.spans (yearP ((p + f.so) / 86400))
      · refine ifT es (ifF (by simp) (ifF (by simp) (ifF (by simp) ?_)))
        have hs : f.sum p ↔ ((f.from' (yearP ((p + f.so) / 86400)) ≤ p ∧ p < f.to' (yearP ((p + f.so) / 86400))) ∨ (f.to' (yearP ((p + f.so) / 86400)) ≤ f.from' (yearP ((p + f.so) / 86400)) ∧ (f.from' (yearP ((p + f.so) / 86400)) ≤ p ∨ p < f.to' (yearP ((p + f.so) / 86400))))) :=
          ⟨fun h => h.2.2, fun h => ⟨ed, es, h⟩⟩
        simp only [decide_eq_true_eq, ge_iff_le]
        generalize f.from' (yearP ((p + f.so) / 86400)) = a at *
        generalize f.to' (yearP ((p + f.so) / 86400)) = b at *
        refine ifC (fun h1 => ifC (fun h2 => dst (hs.2 (by omega))) fun h2 => ifC (fun h3 => ifC (fun h4 => dst (hs.2 (by omega))) fun h4 => absurd h1 h4) fun h3 => std (fun h => by have := hs.1 h; omega))
          fun h1 => ifC (fun h3 => ifC (fun h4 => absurd h4 h1) fun h4 => ifC (fun h5 => dst (hs.2 (by omega))) fun h5 => std (fun h => by have := hs.1 h; omega)) fun h3 => std (fun h => by have := hs.1 h; omega)
      · exact ifF es (ifF (by simp) (ifF (by simp) (ifT (by simp) (std fun h => es h.2.1))))
    · refine ifF ed (sfootSpan f _ ?_)
      have : ¬ f.spans 0 := fun h => by have := h.2.2.1; omega
      exact ifF this (ifF (by simp) (ifT (by simp) (std fun h => ed h.1)))
  · refine ifF e (syear 0 (by omega) (by omega) ?_)
    have h0 : inDays 0 := by unfold inDays; omega
    refine ifT h0 (sfootSpan f _ ?_)
    have out : ¬ f.sum p := fun h => e (by have := h.1; unfold inDays at this; omega)
    refine ifC (fun _ => ifT (by simp) (std out)) fun _ => ifT (by simp) (std out)
end Go.Proofs.YtodmkipcgfodkaaGreatDoor
end
section
set_option linter.unusedVariables false
set_option linter.unusedSimpArgs false
namespace Go.Proofs.YtodmkipcgfodkaaGreatDoor
open Go Go.Proofs.YtodmkipcgfodkaaGreatDoor.Eng Go.Proofs.YtodmkipcgfodkaaGreatDoor.Pl
set_option linter.unusedVariables false
set_option linter.unusedSimpArgs false
def i64 (n : Int) : Prop := -9223372036854775808 ≤ n ∧ n ≤ 9223372036854775807
theorem ok_so {f : Ft} (h : f.ok = true) : -89999 ≤ f.so ∧ f.so ≤ 89999 ∧ f.sd = false ∧ abbrL f.sa = true := by
  unfold Ft.ok at h
  rw [Bool.and_eq_true] at h
  obtain ⟨k1, k2, k3, k4⟩ := kind_all.1 h.1
  exact ⟨k3, k4, k2, k1⟩
theorem not_true (b : Bool) : ((!b) = true) = ¬ (b = true) := by cases b <;> simp
end Go.Proofs.YtodmkipcgfodkaaGreatDoor
end
section
set_option linter.unusedVariables false
set_option linter.unusedSimpArgs false
namespace Go.Proofs.YtodmkipcgfodkaaGreatDoor
open Go Go.Proofs.YtodmkipcgfodkaaGreatDoor.Eng Go.Proofs.YtodmkipcgfodkaaGreatDoor.Pl
set_option linter.unusedVariables false
set_option linter.unusedSimpArgs false
set_option maxRecDepth 100000
set_option maxHeartbeats 2000000
/-- Sorted by when. -/
def Srt (l : List Rec) : Prop := ∀ (s t : Nat) (hs : s < l.length) (ht : t < l.length), s ≤ t → (l[s]).1 ≤ (l[t]).1
theorem half {i j : Nat} (h : i + j ≤ 1000000) : w64 (Int.fdiv (wu64 (w64 ((i : Int) + (j : Int)))) 2) = (((i + j) / 2 : Nat) : Int) := by
  have e1 : w64 ((i : Int) + (j : Int)) = (i : Int) + (j : Int) := w64_in (by omega) (by omega)
  have e2 : wu64 ((i : Int) + (j : Int)) = (i : Int) + (j : Int) := by
    simp only [wu64, IntKind.wrap, IntKind.bits, IntKind.signed]
    try simp
    try omega
  rw [e1, e2, Int.fdiv_eq_ediv_of_nonneg _ (by omega), w64_in (by omega) (by omega)]
  omega
/-- Halving: what a search keeps. -/
def Bin (q : Rec → Bool) (l : List Rec) (i j : Nat) : Prop := i ≤ j ∧ j ≤ l.length ∧ (∀ t (ht : t < l.length), t < i → q l[t] = false) ∧ (∀ t (ht : t < l.length), j ≤ t → q l[t] = true)
def Mono (q : Rec → Bool) (l : List Rec) : Prop := ∀ (s t : Nat) (hs : s < l.length) (ht : t < l.length), s ≤ t → q l[s] = true → q l[t] = true
theorem Bin.low {q : Rec → Bool} {l : List Rec} {i j h : Nat} (hb : Bin q l i j) (hm : Mono q l) (h1 : i ≤ h) (h2 : h < j) (hl : h < l.length) (hq : q l[h] = false) : Bin q l (h + 1) j := by
  obtain ⟨b1, b2, b3, b4⟩ := hb
  refine ⟨by omega, b2, fun t ht hlt => ?_, b4⟩
  cases e : q l[t]
  · rfl
  · rw [hm t h ht hl (by omega) e] at hq; cases hq
theorem Bin.high {q : Rec → Bool} {l : List Rec} {i j h : Nat} (hb : Bin q l i j) (hm : Mono q l) (h1 : i ≤ h) (h2 : h < j) (hl : h < l.length) (hq : q l[h] = true) : Bin q l i h := by
  obtain ⟨b1, b2, b3, b4⟩ := hb
  exact ⟨by omega, by omega, b3, fun t ht hlt => hm h t hl ht hlt hq⟩
theorem Bin.fl {q : Rec → Bool} {l : List Rec} {i : Nat} (hb : Bin q l i i) : Pl.fl q l = i := by
  obtain ⟨b1, b2, b3, b4⟩ := hb
  exact fl_of q l i b2 b3 fun h => b4 i h (Nat.le_refl _)
theorem gt_mono {l : List Rec} (h : Srt l) (a : Int) : Mono (fun c => decide (c.1 > a)) l := fun s t hs ht hst hq => by
  have := h s t hs ht hst
  simp only [decide_eq_true_eq] at *
  omega
theorem ge_mono {l : List Rec} (h : Srt l) (a : Int) : Mono (fun c => decide (c.1 ≥ a)) l := fun s t hs ht hst hq => by
  have := h s t hs ht hst
  simp only [decide_eq_true_eq] at *
  omega
theorem sSearchZ (tr : List Rec) (hs : Srt tr) (hl : tr.length ≤ 100000) (ty lp : List V) (ft : ByteArray) (v a : Int) {K} (h : K (Pl.fl (fun c : Rec => decide (c.1 > a)) tr : Int) ft v a ty false true (RV tr) false true lp false true) :
    Xsort_Search (tr.length : Int) ty (RV tr) lp ft v a K := by
  unfold Xsort_Search Ysort_Search
  refine lp_ind (fun x => (x.1.2.2.2.1 - x.1.2.2.1).toNat) (fun x => ∃ i j : Nat, Bin (fun c : Rec => decide (c.1 > a)) tr i j ∧ x = ((((), (), (), ()), (0 : Int), (i : Int), (j : Int), ()), (ty, RV tr, lp, ft, v, ()), (a, ()), ())) ?_ ⟨0, tr.length, ⟨by omega, by omega, fun t ht h => by omega, fun t ht h => by omega⟩, rfl⟩
  rintro x ⟨i, j, hb, rfl⟩ k hk
  obtain ⟨b1, b2, _, _⟩ := id hb
  unfold Lsort_Search_0
  simp only [decide_eq_true_eq]
  by_cases e : i = j
  · subst e
    rw [if_neg (by omega)]
    rw [hb.fl] at h; exact h
  · rw [if_pos (by omega)]
    simp only [lt]
    rw [half (by omega)]
    have hlt : (i + j) / 2 < tr.length := by omega
    unfold Xzone_Index_1 Yzone_Index_1
    rw [RV_len, if_pos (by omega), Int.toNat_natCast]
    refine asR1 hlt ?_
    dsimp only
    have e1 : w64 ((((i + j) / 2 : Nat) : Int) + 1) = (((i + j) / 2 + 1 : Nat) : Int) := by rw [w64_in (by omega) (by omega)]; omega
    cases hq : decide ((tr[(i + j) / 2]).1 > a)
    · rw [if_pos (show (!false) = true from rfl), e1]
      refine hk _ ⟨(i + j) / 2 + 1, j, hb.low (gt_mono hs a) (by omega) (by omega) hlt hq, rfl⟩ ?_
      show ((j : Int) - (((i + j) / 2 + 1 : Nat) : Int)).toNat < ((j : Int) - (i : Int)).toNat
      omega
    · rw [if_neg (by simp)]
      refine hk _ ⟨i, (i + j) / 2, hb.high (gt_mono hs a) (by omega) (by omega) hlt hq, rfl⟩ ?_
      show ((((i + j) / 2 : Nat) : Int) - (i : Int)).toNat < ((j : Int) - (i : Int)).toNat
      omega
theorem zIndex (z : Zn) (hz : ZI z) (hs : Srt z.tr) (a : Int) {K : Int → Prop} (h : K ((indexN z a : Int) - 1)) : Xzone_Index (tupZ z) a K := by
  unfold Xzone_Index Yzone_Index
  simp only [tupZ_eq, RV_len]
  refine sSearchZ z.tr hs (by have := hz.tr; omega) _ _ _ _ _ ?_
  have h1 := fl_le (fun c : Rec => decide (c.1 > a)) z.tr
  have h2 := hz.tr
  rw [w64_in (by omega) (by omega)]
  exact h
theorem sSearchS (l : List Rec) (hs : Srt l) (hl : l.length ≤ 100000) (o f : Bool) (a : Int) {K} (h : ∀ o f, K (Pl.fl (fun c : Rec => decide (c.1 > a)) l : Int) a (RV l) o f) : Xsort_Search_1 (l.length : Int) a (RV l) o f K := by
  unfold Xsort_Search_1 Ysort_Search_1
  refine lp_ind (fun x => (x.1.2.2.2.1 - x.1.2.2.1).toNat) (fun x => ∃ (i j : Nat) (y : List V × Bool × Bool), Bin (fun c : Rec => decide (c.1 > a)) l i j ∧ x = ((((), (), (), ()), (0 : Int), (i : Int), (j : Int), ()), (RV l, ()), (a, ()), y, ())) ?_ ⟨0, l.length, _, ⟨by omega, by omega, fun t ht h => by omega, fun t ht h => by omega⟩, rfl⟩
  rintro x ⟨i, j, y, hb, rfl⟩ k hk
  obtain ⟨b1, b2, _, _⟩ := id hb
  unfold Lsort_Search_1_0
  simp only [decide_eq_true_eq]
  by_cases e : i = j
  · subst e
    rw [if_neg (by omega)]
    have := h false true
    rw [hb.fl] at this; exact this
  · rw [if_pos (by omega)]
    simp only [lt]
    rw [half (by omega)]
    have hlt : (i + j) / 2 < l.length := by omega
    unfold Xrecord_Sum_1_1 Yrecord_Sum_1_1
    rw [RV_len, if_pos (by omega), Int.toNat_natCast]
    refine asR1 hlt ?_
    dsimp only
    have e1 : w64 ((((i + j) / 2 : Nat) : Int) + 1) = (((i + j) / 2 + 1 : Nat) : Int) := by rw [w64_in (by omega) (by omega)]; omega
    cases hq : decide ((l[(i + j) / 2]).1 > a)
    · rw [if_pos (show (!false) = true from rfl), e1]
      refine hk _ ⟨(i + j) / 2 + 1, j, _, hb.low (gt_mono hs a) (by omega) (by omega) hlt hq, rfl⟩ ?_
      show ((j : Int) - (((i + j) / 2 + 1 : Nat) : Int)).toNat < ((j : Int) - (i : Int)).toNat
      omega
    · rw [if_neg (by simp)]
      refine hk _ ⟨i, (i + j) / 2, _, hb.high (gt_mono hs a) (by omega) (by omega) hlt hq, rfl⟩ ?_
      show ((((i + j) / 2 : Nat) : Int) - (i : Int)).toNat < ((j : Int) - (i : Int)).toNat
      omega
theorem sSum (l : List Rec) (hs : Srt (leapsR l)) (hl : l.length ≤ 100000) (a : Int) {K : Int → Prop} (h : K (sumR l a)) : Xrecord_Sum (RV l) a K := by
  unfold Xrecord_Sum Yrecord_Sum
  refine sLeaps l hl ?_
  rw [RV_len]
  have hl2 : (leapsR l).length ≤ 100000 := by rw [leapsR_len]; split <;> omega
  refine sSearchS (leapsR l) hs hl2 _ _ _ fun o f => ?_
  unfold sumR at h
  have h1 := fl_le (fun c : Rec => decide (c.1 > a)) (leapsR l)
  generalize Pl.fl (fun c : Rec => decide (c.1 > a)) (leapsR l) = m at *
  simp only [beq_iff_eq]
  by_cases e : m = 0
  · subst e
    rw [if_pos (show ((0 : Nat) : Int) = 0 from rfl)]
    exact h
  · rw [if_neg (by omega)]
    have e1 : w64 ((m : Int) - 1) = ((m - 1 : Nat) : Int) := by rw [w64_in (by omega) (by omega)]; omega
    rw [e1, RV_len, if_pos (by omega), Int.toNat_natCast]
    refine asR2 (by omega) ?_
    have : ((leapsR l).take m).getLast? = some ((leapsR l)[m - 1]'(by omega)) := by
      rw [List.getLast?_eq_getElem?, List.length_take, Nat.min_eq_left h1, List.getElem?_take, if_pos (by omega), List.getElem?_eq_getElem (by omega)]
    rw [this] at h
    exact h
end Go.Proofs.YtodmkipcgfodkaaGreatDoor
end
section
set_option linter.unusedVariables false
set_option linter.unusedSimpArgs false
namespace Go.Proofs.YtodmkipcgfodkaaGreatDoor
open Go Go.Proofs.YtodmkipcgfodkaaGreatDoor.Eng Go.Proofs.YtodmkipcgfodkaaGreatDoor.Pl
set_option linter.unusedVariables false
set_option linter.unusedSimpArgs false
set_option maxRecDepth 100000
set_option maxHeartbeats 2000000
theorem trOk_cons (n : Nat) (b : Option Int) (c : Rec) (r : List Rec) : trOk n b (c :: r) = true ↔ ((0 ≤ c.2 ∧ c.2 < n) ∧ (∀ a, b = some a → c.1 > a)) ∧ trOk n (some c.1) r = true := by
  cases b with
  | none => simp [trOk]
  | some a => simp [trOk]
theorem sallTr (ty : List Ty) (tr : List Rec) (hl : tr.length ≤ 100000) (lp : List V) (ft : ByteArray) (v : Int) {K} (h : K (trOk ty.length none tr) ft v (TV ty) false true (RV tr) false true lp false true) :
    Xzone_all_api_Trans_ (RV tr) (TV ty) (RV tr) lp ft v K := by
  unfold Xzone_all_api_Trans_ Yzone_all_api_Trans_
  rw [RV_len]
  refine lp_ind (fun x => tr.length - x.1.2.2.2.2.1.toNat) (fun x => ∃ (j : Nat) (b : Option Int), j ≤ tr.length ∧ x = ((((), (), ()), false, RV tr, (tr.length : Int), (j : Int), ()), (TV ty, RV tr, lp, ft, v, ()), ()) ∧ trOk ty.length b (tr.drop j) = trOk ty.length none tr ∧ (j = 0 → b = none) ∧ (∀ (h0 : 0 < j) (hj : j - 1 < tr.length), b = some (tr[j - 1]).1)) ?_ ⟨0, none, by omega, rfl, rfl, fun _ => rfl, fun h => absurd h (by omega)⟩
  rintro x ⟨j, b, hj, rfl, hok, hb0, hb1⟩ k hk
  unfold Lzone_all_api_Trans__0
  simp only [decide_eq_true_eq, RV_len]
  by_cases e : j = tr.length
  · rw [if_neg (by omega)]
    have : trOk ty.length none tr = true := by rw [← hok, e, List.drop_length]; rfl
    rw [this] at h; exact h
  · have hj' : j < tr.length := by omega
    rw [Int.toNat_natCast, if_pos (by omega), if_pos (by omega)]
    refine asR1 hj' (asR2 hj' ?_)
    have hd : tr.drop j = tr[j] :: tr.drop (j + 1) := List.drop_eq_getElem_cons hj'
    rw [hd] at hok
    have hcons := trOk_cons ty.length b tr[j] (tr.drop (j + 1))
    rw [hok] at hcons
    have e1 : w64 ((j : Int) + 1) = ((j + 1 : Nat) : Int) := by rw [w64_in (by omega) (by omega)]; omega
    have bad : ∀ w, w = false → ¬ ((0 ≤ (tr[j]).2 ∧ (tr[j]).2 < ty.length) ∧ (∀ a, b = some a → (tr[j]).1 > a)) → K w ft v (TV ty) false true (RV tr) false true lp false true := fun w hw hn => by
      have : trOk ty.length none tr = false := by
        cases hr : trOk ty.length none tr
        · rfl
        · exact absurd (hcons.1 hr).1 hn
      rw [this] at h; rw [hw]; exact h
    have good : ((0 ≤ (tr[j]).2 ∧ (tr[j]).2 < ty.length) ∧ (∀ a, b = some a → (tr[j]).1 > a)) → k ((((), (), ()), false, RV tr, (tr.length : Int), ((j + 1 : Nat) : Int), ()), (TV ty, RV tr, lp, ft, v, ()), ()) := fun hg => by
      refine hk _ ⟨j + 1, some (tr[j]).1, by omega, rfl, ?_, fun h => absurd h (by omega), fun h0 hj => rfl⟩ ?_
      · rw [Bool.eq_iff_iff]
        exact ⟨fun hr => hcons.2 ⟨hg, hr⟩, fun hr => (hcons.1 hr).2⟩
      · show tr.length - ((j + 1 : Nat) : Int).toNat < tr.length - ((j : Nat) : Int).toNat
        omega
    unfold Xzone_Right_2 Yzone_Right_2
    simp only [decide_eq_true_eq, TV_len, RV_len, beq_iff_eq, e1]
    by_cases c1 : (tr[j]).2 ≥ 0
    · rw [if_pos c1]
      by_cases c2 : (tr[j]).2 < (ty.length : Int)
      · rw [if_pos c2]
        by_cases c3 : j = 0
        · rw [if_pos (by omega), if_neg (by simp)]
          exact good ⟨⟨c1, c2⟩, fun a ha => by rw [hb0 c3] at ha; cases ha⟩
        · rw [if_neg (by omega)]
          have e2 : w64 ((j : Int) - 1) = ((j - 1 : Nat) : Int) := by rw [w64_in (by omega) (by omega)]; omega
          rw [e2, if_pos (by omega), Int.toNat_natCast]
          refine asR1 (by omega) ?_
          have hb := hb1 (by omega) (by omega)
          by_cases c4 : (tr[j]).1 > (tr[j - 1]'(by omega)).1
          · rw [if_neg (by simpa using c4)]
            exact good ⟨⟨c1, c2⟩, fun a ha => by rw [hb] at ha; cases ha; exact c4⟩
          · rw [if_pos (by simpa using c4)]
            exact bad _ rfl fun hn => c4 (hn.2 _ hb)
      · rw [if_neg c2, if_pos (show (!false) = true from rfl)]
        exact bad _ rfl fun hn => c2 hn.1.2
    · rw [if_neg c1, if_pos (show (!false) = true from rfl)]
      exact bad _ rfl fun hn => c1 hn.1.1
theorem sodd (k a b c x : Int) {K : Bool → Prop} (h : K (oddR x)) : Xzone_odd (k, a, b, c, x, ()) K := by
  unfold Xzone_odd Yzone_odd
  unfold oddR at h
  simp only [decide_eq_true_eq]
  by_cases h1 : x < 0
  · rw [if_pos h1]
    have : decide (x < 0) = true := decide_eq_true h1
    rw [this] at h; exact h
  · rw [if_neg h1]
    have : decide (x < 0) = false := decide_eq_false h1
    rw [this] at h; exact h
theorem S_nil (l : List UInt8) : (ByteArray.toList (S l) == ByteArray.toList (ByteArray.mk #[])) = l.isEmpty := by
  rw [show ByteArray.mk #[] = S [] from rfl, S_toList, S_toList]
  cases l <;> rfl
theorem sends (z : Zn) (h : ZI z) (X Y L) {K : Bool → Prop} (hk : K (endsOk z)) : Xzone_ends (X, Y, L, S z.ft, z.v, ()) K := by
  unfold Xzone_ends Yzone_ends
  simp only [S_nil]
  unfold endsOk at hk
  cases e : z.ft.isEmpty
  · rw [e] at hk
    rw [if_neg (by simp)]
    refine sfootParse z.ft (by have := h.ft; omega) ?_
    refine sodd _ _ _ _ _ ?_
    simp only [Bool.false_or] at hk
    generalize (Ft.parse z.ft).1 = f at *
    generalize (Ft.parse z.ft).2 = o at *
    have ge : ∀ n : Int, n = 3 ∨ n = 2 → True := fun _ _ => trivial
    cases h1 : oddR f.fr.x
    · rw [if_neg (by simp)]
      refine sodd _ _ _ _ _ ?_
      rw [h1] at hk
      cases h2 : oddR f.to.x
      · rw [h2] at hk
        rw [if_neg (by simp)]
        cases o
        · simpa using hk
        · simpa using hk
      · rw [h2] at hk
        rw [if_pos rfl]
        cases o
        · simpa using hk
        · simpa using hk
    · rw [h1] at hk
      rw [if_pos rfl]
      cases o
      · simpa using hk
      · simpa using hk
  · rw [e] at hk
    rw [if_pos rfl]
    exact hk
theorem sRight (z : Zn) (h : ZI z) {K : Bool → Prop} (hk : K (zoneRight z)) : Xzone_Right (tupZ z) K := by
  show Xzone_Right (TV z.ty, RV z.tr, RV z.lp, S z.ft, z.v, ()) K
  unfold Xzone_Right Yzone_Right
  dsimp only
  unfold zoneRight at hk
  refine scount z h fun r => ?_
  cases e1 : countOk z
  · rw [e1] at hk
    rw [if_pos (show (!false) = true from rfl)]
    simpa using hk
  rw [e1] at hk
  rw [if_neg (by simp)]
  refine sRecRight z.lp h.ri (by have := h.lp; omega) ?_
  cases e2 : recRight z.lp
  · rw [e2] at hk
    rw [if_pos (show (!false) = true from rfl)]
    simpa using hk
  rw [e2] at hk
  rw [if_neg (by simp)]
  refine sExpiry z.lp (by have := h.lp; omega) fun n => ?_
  have rest : ∀ {K : Bool → Prop}, K (z.ty.all (fun t => decide (-89999 ≤ t.1 ∧ t.1 ≤ 93599)) && trOk z.ty.length none z.tr && endsOk z) → Xzone_all_api_Type_ (TV z.ty) (fun r20 =>
      Xzone_all_api_Trans_ (RV z.tr) (TV z.ty) (RV z.tr) (RV z.lp) (S z.ft) z.v (fun r21 r22 r23 r24 r25 r26 r27 r28 r29 r30 r31 r32 =>
      (if r20 = true then (if r21 = true then Xzone_ends (r24, r27, r30, r22, r23, ()) (fun r33 => K r33) else K false) else K false))) := by
    intro K hk
    refine sallT z.ty (by have := h.ty; omega) ?_
    refine sallTr z.ty z.tr (by have := h.tr; omega) _ _ _ ?_
    cases e4 : z.ty.all (fun t => decide (-89999 ≤ t.1 ∧ t.1 ≤ 93599))
    · rw [e4] at hk
      rw [if_neg (by simp)]
      simpa using hk
    rw [e4] at hk
    rw [if_pos rfl]
    cases e5 : trOk z.ty.length none z.tr
    · rw [e5] at hk
      rw [if_neg (by simp)]
      simpa using hk
    rw [e5] at hk
    rw [if_pos rfl]
    exact sends z h _ _ _ (by simpa using hk)
  cases e3 : lastExp z.lp
  · rw [e3] at hk
    rw [if_neg (by simp)]
    exact rest (by simpa [Bool.and_assoc] using hk)
  · rw [e3] at hk
    rw [if_pos rfl]
    by_cases e6 : z.v < 4
    · rw [if_pos (by simpa using e6)]
      have : decide (z.v ≥ 4) = false := by simp; omega
      rw [this] at hk
      simpa using hk
    · rw [if_neg (by simpa using e6)]
      have : decide (z.v ≥ 4) = true := by simp; omega
      rw [this] at hk
      exact rest (by simpa [Bool.and_assoc] using hk)
end Go.Proofs.YtodmkipcgfodkaaGreatDoor
end
section
set_option linter.unusedVariables false
set_option linter.unusedSimpArgs false
namespace Go.Proofs.YtodmkipcgfodkaaGreatDoor
open Go Go.Proofs.YtodmkipcgfodkaaGreatDoor.Eng Go.Proofs.YtodmkipcgfodkaaGreatDoor.Pl
set_option linter.unusedVariables false
set_option linter.unusedSimpArgs false
set_option maxRecDepth 100000
set_option maxHeartbeats 2000000
theorem trOk_all (n : Nat) : ∀ (l : List Rec) (b : Option Int), trOk n b l = true → (∀ i (h : i < l.length), (∀ a, b = some a → (l[i]).1 > a) ∧ 0 ≤ (l[i]).2 ∧ (l[i]).2 < n) ∧ (∀ (s t : Nat) (hs : s < l.length) (ht : t < l.length), s < t → (l[s]).1 < (l[t]).1)
  | [], b, h => ⟨fun i h => by simp at h, fun s t hs => by simp at hs⟩
  | c :: r, b, h => by
    obtain ⟨⟨h1, h2⟩, h3⟩ := (trOk_cons n b c r).1 h
    obtain ⟨ih1, ih2⟩ := trOk_all n r (some c.1) h3
    refine ⟨fun i hi => ?_, fun s t hs ht hst => ?_⟩
    · cases i with
      | zero => exact ⟨h2, h1⟩
      | succ i =>
        obtain ⟨q1, q2⟩ := ih1 i (by simpa using hi)
        refine ⟨fun a ha => ?_, q2⟩
        have := q1 _ rfl
        have := h2 a ha
        simp only [List.getElem_cons_succ]
        omega
    · cases t with
      | zero => omega
      | succ t =>
        cases s with
        | zero => exact (ih1 t (by simpa using ht)).1 _ rfl
        | succ s => exact ih2 s t (by simpa using hs) (by simpa using ht) (by omega)
theorem srt_tr {n : Nat} {l : List Rec} (h : trOk n none l = true) : Srt l := fun s t hs ht hst => by
  rcases Nat.lt_or_ge s t with h1 | h1
  · have := (trOk_all n l none h).2 s t hs ht h1; omega
  · have : s = t := by omega
    subst this; omega
theorem recOk_all : ∀ (l : List Rec) (k : Nat) (b : Rec), recOk k b l = true → (∀ i (h : i < l.length), (0 < k → b.1 ≤ (l[i]).1) ∧ 0 ≤ (l[i]).1) ∧ (∀ (s t : Nat) (hs : s < l.length) (ht : t < l.length), s < t → (l[s]).1 ≤ (l[t]).1)
  | [], k, b, h => ⟨fun i h => by simp at h, fun s t hs => by simp at hs⟩
  | c :: r, k, b, h => by
    obtain ⟨⟨h1, h2, h3, h4⟩, h5⟩ := (recOk_cons k b c r).1 h
    obtain ⟨ih1, ih2⟩ := recOk_all r (k + 1) c h5
    refine ⟨fun i hi => ?_, fun s t hs ht hst => ?_⟩
    · cases i with
      | zero => exact ⟨fun h => by simp only [List.getElem_cons_zero]; omega, h2⟩
      | succ i =>
        obtain ⟨q1, q2⟩ := ih1 i (by simpa using hi)
        refine ⟨fun hk => ?_, q2⟩
        have := q1 (by omega)
        simp only [List.getElem_cons_succ]
        omega
    · cases t with
      | zero => omega
      | succ t =>
        cases s with
        | zero => exact (ih1 t (by simpa using ht)).1 (by omega)
        | succ s => exact ih2 s t (by simpa using hs) (by simpa using ht) (by omega)
theorem srt_rec {l : List Rec} (h : recRight l = true) : Srt l := fun s t hs ht hst => by
  rcases Nat.lt_or_ge s t with h1 | h1
  · have := (recOk_all l 0 _ h).2 s t hs ht h1; omega
  · have : s = t := by omega
    subst this; omega
theorem srt_leaps {l : List Rec} (h : Srt l) : Srt (leapsR l) := by
  unfold leapsR
  split
  · intro s t hs ht hst
    rw [List.getElem_take, List.getElem_take]
    exact h s t _ _ hst
  · exact h
structure ZR (z : Zn) : Prop extends ZI z where
  right : zoneRight z = true
theorem ZR.all {z : Zn} (h : ZR z) : countOk z = true ∧ recRight z.lp = true ∧ (lastExp z.lp = true → z.v ≥ 4) ∧ (z.ty.all (fun t => decide (-89999 ≤ t.1 ∧ t.1 ≤ 93599)) = true) ∧ trOk z.ty.length none z.tr = true ∧ endsOk z = true := by
  have := h.right
  unfold zoneRight at this
  simp only [Bool.and_eq_true] at this
  obtain ⟨⟨⟨⟨⟨h1, h2⟩, h3⟩, h4⟩, h5⟩, h6⟩ := this
  refine ⟨h1, h2, fun he => ?_, h4, h5, h6⟩
  rw [he] at h3
  simpa using h3
theorem ZR.one {z : Zn} (h : ZR z) : 1 ≤ z.ty.length := by
  have := h.all.1
  unfold countOk nin at this
  simp only [Bool.and_eq_true, decide_eq_true_eq] at this
  omega
theorem ZR.st {z : Zn} (h : ZR z) : Srt z.tr := srt_tr h.all.2.2.2.2.1
theorem ZR.sl {z : Zn} (h : ZR z) : Srt (leapsR z.lp) := srt_leaps (srt_rec h.all.2.1)
theorem zPosix (z : Zn) (h : ZR z) (a : Int) {K : Int → Prop} (hk : K (posixR z a)) : Xzone_Posix (tupZ z) a K := by
  show Xzone_Posix (TV z.ty, RV z.tr, RV z.lp, S z.ft, z.v, ()) a K
  unfold Xzone_Posix Yzone_Posix
  exact sSum z.lp h.sl (by have := h.lp; omega) a hk
theorem headD_at {α : Type} (l : List α) (d : α) (h : 0 < l.length) : l.headD d = l[0] := by
  cases l with
  | nil => simp at h
  | cons x r => rfl
abbrev tupT (t : Ty) : Int × Bool × ByteArray × Unit := (t.1, t.2.1, S t.2.2, ())
theorem w64_rng (n : Int) : -9223372036854775808 ≤ w64 n ∧ w64 n ≤ 9223372036854775807 := by
  simp only [w64, IntKind.wrap, IntKind.bits, IntKind.signed]
  try simp
  try omega
theorem zFoot (f : Ft) (p : Int) (hp : -9223372036854775808 ≤ p ∧ p ≤ 9223372036854775807) (hf : f.ok = true) {K} (h : K (tupT (f.look p))) : Xfoot_Lookup (tupFt f) p K := by
  obtain ⟨o1, o2, _⟩ := ok_so hf
  refine sfootLookup f p hp ⟨by omega, by omega⟩ ?_
  unfold Ft.look at h
  by_cases e : f.sum p
  · rw [if_pos e] at h ⊢; exact h
  · rw [if_neg e] at h ⊢; exact h
theorem zLookup (z : Zn) (h : ZR z) (a : Int) {K} (hk : K (tupT (lookZ z a))) : Xzone_Lookup (tupZ z) a K := by
  unfold Xzone_Lookup Yzone_Lookup
  refine zIndex z h.toZI h.st a ?_
  have hle := fl_le (fun c : Rec => decide (c.1 > a)) z.tr
  have htr := h.tr
  have h1 := h.one
  unfold lookZ at hk
  have hn : indexN z a = Pl.fl (fun c : Rec => decide (c.1 > a)) z.tr := rfl
  rw [← hn] at hle
  generalize indexN z a = m at *
  have e1 : w64 ((m : Int) - 1 + 1) = (m : Int) := by rw [w64_in (by omega) (by omega)]; omega
  simp only [tupZ_eq, S_nil, TV_len, RV_len, e1]
  have found : ¬ (z.ft ≠ [] ∧ m = z.tr.length) → (if decide ((m : Int) - 1 < 0) = true then
      (if (0 : Int) ≤ 0 ∧ 0 < (z.ty.length : Int) then
      (Eng.asInt IntKind.i64 (Eng.getC (TV z.ty) (0 : Nat) (0 : Nat)) False fun n7 =>
      (Eng.asBool (Eng.getC (TV z.ty) (0 : Nat) (1 : Nat)) False fun b8 =>
      (Eng.asStr (Eng.getC (TV z.ty) (0 : Nat) (2 : Nat)) False fun t9 => K (n7, b8, t9, ())))) else False)
      else
      (if 0 ≤ (m : Int) - 1 ∧ (m : Int) - 1 < (z.tr.length : Int) then
      (Eng.asInt IntKind.i64 (Eng.getC (RV z.tr) (Int.toNat ((m : Int) - 1)) (1 : Nat)) False fun n10 =>
      (if 0 ≤ n10 ∧ n10 < (z.ty.length : Int) then
      (Eng.asInt IntKind.i64 (Eng.getC (TV z.ty) (Int.toNat n10) (0 : Nat)) False fun n11 =>
      (Eng.asBool (Eng.getC (TV z.ty) (Int.toNat n10) (1 : Nat)) False fun b12 =>
      (Eng.asStr (Eng.getC (TV z.ty) (Int.toNat n10) (2 : Nat)) False fun t13 => K (n11, b12, t13, ()))))
      else False)) else False)) := fun hno => by
    rw [if_neg hno] at hk
    by_cases hm : m = 0
    · subst hm
      rw [if_pos (by simp), if_pos (by omega)]
      refine asT1 (by omega) (asT2 (by omega) (asT3 (by omega) ?_))
      have := headD_at z.ty (0, false, []) (by omega)
      simp only [List.take_zero, List.getLast?_nil] at hk
      rw [this] at hk
      exact hk
    · rw [if_neg (by simp; omega), if_pos (by omega)]
      have e2 : Int.toNat ((m : Int) - 1) = m - 1 := by omega
      rw [e2]
      refine asR2 (by omega) ?_
      obtain ⟨_, q1, q2⟩ := (trOk_all _ _ _ h.all.2.2.2.2.1).1 (m - 1) (by omega)
      have hl : (z.tr.take m).getLast? = some (z.tr[m - 1]'(by omega)) := by
        rw [List.getLast?_eq_getElem?, List.length_take, Nat.min_eq_left hle, List.getElem?_take, if_pos (by omega), List.getElem?_eq_getElem (by omega)]
      rw [hl] at hk
      simp only at hk
      rw [if_pos ⟨q1, q2⟩]
      refine asT1 (by omega) (asT2 (by omega) (asT3 (by omega) ?_))
      rw [getD_at z.ty _ _ (by omega)] at hk
      exact hk
  cases e : z.ft.isEmpty
  · have hne : z.ft ≠ [] := by
      intro hh; rw [hh] at e; cases e
    rw [if_pos (show (!false) = true from rfl)]
    by_cases hm : m = z.tr.length
    · rw [if_pos (by simp [hm])]
      rw [if_pos ⟨hne, hm⟩] at hk
      have hp : (Ft.parse z.ft).2 = true := by
        have := h.all.2.2.2.2.2
        unfold endsOk at this
        rw [e] at this
        simp only [Bool.false_or, Bool.and_eq_true] at this
        exact this.1
      refine sfootParse z.ft (by have := h.ft; omega) ?_
      refine zPosix z h a ?_
      exact zFoot _ _ (w64_rng _) (parse_ok _ hp) hk
    · rw [if_neg (by simp; omega)]
      exact found fun hh => hm hh.2
  · have hne : z.ft = [] := by
      cases hz : z.ft with
      | nil => rfl
      | cons x r => rw [hz] at e; cases e
    rw [if_neg (by simp)]
    exact found fun hh => hh.1 hne
end Go.Proofs.YtodmkipcgfodkaaGreatDoor
end
section
set_option linter.unusedVariables false
set_option linter.unusedSimpArgs false
namespace Go.Proofs.YtodmkipcgfodkaaGreatDoor
open Go Go.Proofs.YtodmkipcgfodkaaGreatDoor.Eng Go.Proofs.YtodmkipcgfodkaaGreatDoor.Pl
set_option linter.unusedVariables false
set_option linter.unusedSimpArgs false
set_option maxRecDepth 100000
set_option maxHeartbeats 2000000
structure ZG (z : Zn) : Prop where
  ri : recI z.lp
  ti : recI z.tr
  v : i64r z.v
  tl : z.ty.length ≤ 9223372036854775807
end Go.Proofs.YtodmkipcgfodkaaGreatDoor
end
section
set_option linter.unusedVariables false
set_option linter.unusedSimpArgs false
namespace Go.Proofs.YtodmkipcgfodkaaGreatDoor
open Go Go.Proofs.YtodmkipcgfodkaaGreatDoor.Eng Go.Proofs.YtodmkipcgfodkaaGreatDoor.Pl
set_option linter.unusedVariables false
set_option linter.unusedSimpArgs false
set_option maxRecDepth 100000
set_option maxHeartbeats 2000000
def prevR (b : Rec) (l : List Rec) (i : Nat) : Rec := if i = 0 then b else l.getD (i - 1) (0, 0)
theorem recOk_at : ∀ (l : List Rec) (k : Nat) (b : Rec), recOk k b l = true → ∀ (i : Nat) (h : i < l.length),
    ((l[i]).2 - (prevR b l i).2 = 0 ∧ i + 1 = l.length) ∨ (((l[i]).2 - (prevR b l i).2 = 1 ∨ (l[i]).2 - (prevR b l i).2 = -1) ∧ (k + i = 0 ∨ (l[i]).1 - (prevR b l i).1 ≥ 2419199))
  | [], k, b, h, i, hi => by simp at hi
  | c :: r, k, b, h, i, hi => by
    obtain ⟨⟨h1, h2, h3, h4⟩, h5⟩ := (recOk_cons k b c r).1 h
    cases i with
    | zero =>
      simp only [prevR, if_true, List.getElem_cons_zero, List.length_cons]
      by_cases e : c.2 - b.2 = 0 ∧ r = []
      · exact .inl ⟨e.1, by rw [e.2]; rfl⟩
      · refine .inr ⟨?_, ?_⟩
        · rcases h3 with h3 | h3
          · exact absurd h3 e
          · exact h3
        · rcases h4 with h4 | h4 | h4
          · exact .inl (by omega)
          · exact absurd h4.1 e
          · exact .inr h4.2
    | succ i =>
      have ih := recOk_at r (k + 1) c h5 i (by simpa using hi)
      have hp : prevR b (c :: r) (i + 1) = prevR c r i := by
        unfold prevR
        rw [if_neg (by omega)]
        cases i with
        | zero => rfl
        | succ i => rfl
      rw [hp]
      simp only [List.getElem_cons_succ, List.length_cons]
      rcases ih with ih | ih
      · exact .inl ⟨ih.1, by omega⟩
      · exact .inr ⟨ih.1, ih.2.imp (fun h => by omega) id⟩
/-- The sum behind so many records. -/
def sm (l : List Rec) (m : Nat) : Int := if m = 0 then 0 else (l.getD (m - 1) (0, 0)).2
theorem leaps_at {l : List Rec} (h : recRight l = true) (i : Nat) (hi : i < (leapsR l).length) :
    (sm (leapsR l) (i + 1) - sm (leapsR l) i = 1 ∨ sm (leapsR l) (i + 1) - sm (leapsR l) i = -1) ∧ 0 ≤ ((leapsR l)[i]).1 ∧ (∀ j (hj : j < (leapsR l).length), i < j → ((leapsR l)[i]).1 < ((leapsR l)[j]).1) := by
  have hl := leapsR_len l
  have hil : i < l.length := by rw [hl] at hi; split at hi <;> omega
  have get : ∀ j (hj : j < (leapsR l).length), (leapsR l)[j] = l[j]'(by rw [hl] at hj; split at hj <;> omega) := fun j hj => by
    unfold leapsR
    by_cases e : lastExp l = true
    · simp only [e, if_true, List.getElem_take]
    · simp only [e, if_false]; rfl
  have getd : ∀ j, j < (leapsR l).length → (leapsR l).getD j (0, 0) = l.getD j (0, 0) := fun j hj => by
    rw [getD_at _ _ _ hj, get j hj, getD_at l]
  have key : ∀ j (hj : j < (leapsR l).length), ((l[j]'(by rw [hl] at hj; split at hj <;> omega)).2 - (prevR (-2419199, 0) l j).2 = 1 ∨ (l[j]'(by rw [hl] at hj; split at hj <;> omega)).2 - (prevR (-2419199, 0) l j).2 = -1) ∧ (j = 0 ∨ (l[j]'(by rw [hl] at hj; split at hj <;> omega)).1 - (prevR (-2419199, 0) l j).1 ≥ 2419199) := fun j hj => by
    have hjl : j < l.length := by rw [hl] at hj; split at hj <;> omega
    rcases recOk_at l 0 (-2419199, 0) h j hjl with ⟨e1, e2⟩ | ⟨e1, e2⟩
    · exfalso
      have : lastExp l = true := by
        unfold lastExp
        unfold prevR at e1
        by_cases j0 : j = 0
        · rw [if_pos j0] at e1
          subst j0
          have g := getD_at l 0 (0, 0) hjl
          rw [g]
          simp only [Bool.or_eq_true, Bool.and_eq_true, decide_eq_true_eq, beq_iff_eq]
          exact .inl ⟨by omega, by simpa using e1⟩
        · rw [if_neg j0] at e1
          have g := getD_at l (l.length - 1) (0, 0) (by omega)
          have ej : l.length - 1 = j := by omega
          have ej2 : l.length - 2 = j - 1 := by omega
          simp only [Bool.or_eq_true, Bool.and_eq_true, decide_eq_true_eq, beq_iff_eq]
          refine .inr ⟨by omega, ?_⟩
          rw [ej, ej2, getD_at l j _ hjl]; omega
      rw [hl, if_pos this] at hj
      omega
    · exact ⟨e1, e2.imp (fun h => by omega) id⟩
  refine ⟨?_, ?_, ?_⟩
  · have := (key i hi).1
    unfold sm
    rw [if_neg (by omega), Nat.add_sub_cancel, getd i hi, getD_at l i _ hil]
    unfold prevR at this
    by_cases i0 : i = 0
    · rw [if_pos i0] at this ⊢; exact this
    · rw [if_neg i0] at this ⊢
      rw [getd (i - 1) (by omega)]; exact this
  · rw [get i hi]; exact ((recOk_all l 0 _ h).1 i hil).2
  · intro j hj hij
    have hjl : j < l.length := by rw [hl] at hj; split at hj <;> omega
    have := (key j hj).2
    have hs := srt_rec h i (j - 1) hil (by omega) (by omega)
    unfold prevR at this
    rw [if_neg (show ¬ j = 0 by omega), getD_at l (j - 1) _ (by omega)] at this
    rw [get i hi, get j hj]
    rcases this with h0 | h0
    · omega
    · omega
theorem sm_bd {l : List Rec} (h : recRight l = true) : ∀ m, m ≤ (leapsR l).length → -(m : Int) ≤ sm (leapsR l) m ∧ sm (leapsR l) m ≤ m
  | 0, _ => by simp [sm]
  | m + 1, hm => by
    have ih := sm_bd h m (by omega)
    have := (leaps_at h m (by omega)).1
    omega
theorem sumR_sm (l : List Rec) (a : Int) : sumR l a = sm (leapsR l) (Pl.fl (fun c : Rec => decide (c.1 > a)) (leapsR l)) := by
  have hle := fl_le (fun c : Rec => decide (c.1 > a)) (leapsR l)
  unfold sumR sm
  generalize Pl.fl (fun c : Rec => decide (c.1 > a)) (leapsR l) = m at *
  by_cases m0 : m = 0
  · subst m0; rfl
  · rw [if_neg m0]
    have : ((leapsR l).take m).getLast? = some ((leapsR l)[m - 1]'(by omega)) := by
      rw [List.getLast?_eq_getElem?, List.length_take, Nat.min_eq_left hle, List.getElem?_take, if_pos (by omega), List.getElem?_eq_getElem (by omega)]
    rw [this, getD_at _ _ _ (by omega)]
theorem sum_next {l : List Rec} (h : recRight l = true) (a : Int) :
    let m' := Pl.fl (fun c : Rec => decide (c.1 ≥ a)) (leapsR l)
    (∃ hm : m' < (leapsR l).length, ((leapsR l)[m']).1 = a ∧ sumR l a = sm (leapsR l) (m' + 1) ∧ sumR l (a - 1) = sm (leapsR l) m') ∨ ((∀ hm : m' < (leapsR l).length, ((leapsR l)[m']).1 ≠ a) ∧ sumR l a = sm (leapsR l) m' ∧ sumR l (a - 1) = sm (leapsR l) m') := by
  intro m'
  have hle := fl_le (fun c : Rec => decide (c.1 ≥ a)) (leapsR l)
  have hsp := fl_spec (fun c : Rec => decide (c.1 ≥ a)) (leapsR l)
  have hm : Pl.fl (fun c : Rec => decide (c.1 ≥ a)) (leapsR l) = m' := rfl
  rw [hm] at hle hsp
  have e1 : Pl.fl (fun c : Rec => decide (c.1 > a - 1)) (leapsR l) = m' := fl_of _ _ _ hle
    (fun i hi him => by have := (hsp i hi).1 him; simp only [decide_eq_false_iff_not] at this ⊢; omega)
    (fun hi => by have := (hsp m' hi).2 rfl; simp only [decide_eq_true_eq] at this ⊢; omega)
  rw [sumR_sm l a, sumR_sm l (a - 1), e1]
  by_cases hx : ∃ hm : m' < (leapsR l).length, ((leapsR l)[m']).1 = a
  · obtain ⟨hlt, he⟩ := hx
    refine .inl ⟨hlt, he, ?_, rfl⟩
    have : Pl.fl (fun c : Rec => decide (c.1 > a)) (leapsR l) = m' + 1 := fl_of _ _ _ (by omega)
      (fun i hi him => by
        simp only [decide_eq_false_iff_not]
        by_cases ei : i = m'
        · subst ei; omega
        · have := (leaps_at h i hi).2.2 m' hlt (by omega); omega)
      (fun hi => by
        have := (leaps_at h m' hlt).2.2 (m' + 1) hi (by omega)
        simp only [decide_eq_true_eq]; omega)
    rw [this]
  · refine .inr ⟨fun hlt he => hx ⟨hlt, he⟩, ?_, rfl⟩
    have : Pl.fl (fun c : Rec => decide (c.1 > a)) (leapsR l) = m' := fl_of _ _ _ hle
      (fun i hi him => by have := (hsp i hi).1 him; simp only [decide_eq_false_iff_not] at this ⊢; omega)
      (fun hi => by
        have := (hsp m' hi).2 rfl
        have hne : ((leapsR l)[m']).1 ≠ a := fun he => hx ⟨hi, he⟩
        simp only [decide_eq_true_eq] at this ⊢; omega)
    rw [this]
theorem sSearchT (l : List Rec) (hs : Srt l) (hl : l.length ≤ 100000) (o f : Bool) (a : Int) {K} (h : ∀ o f, K (Pl.fl (fun c : Rec => decide (c.1 ≥ a)) l : Int) a (RV l) o f) : Xsort_Search_2 (l.length : Int) a (RV l) o f K := by
  unfold Xsort_Search_2 Ysort_Search_2
  refine lp_ind (fun x => (x.1.2.2.2.1 - x.1.2.2.1).toNat) (fun x => ∃ (i j : Nat) (y : List V × Bool × Bool), Bin (fun c : Rec => decide (c.1 ≥ a)) l i j ∧ x = ((((), (), (), ()), (0 : Int), (i : Int), (j : Int), ()), (RV l, ()), (a, ()), y, ())) ?_ ⟨0, l.length, _, ⟨by omega, by omega, fun t ht h => by omega, fun t ht h => by omega⟩, rfl⟩
  rintro x ⟨i, j, y, hb, rfl⟩ k hk
  obtain ⟨b1, b2, _, _⟩ := id hb
  unfold Lsort_Search_2_0
  simp only [decide_eq_true_eq]
  by_cases e : i = j
  · subst e
    rw [if_neg (by omega)]
    have := h false true
    rw [hb.fl] at this; exact this
  · rw [if_pos (by omega)]
    simp only [lt]
    rw [half (by omega)]
    have hlt : (i + j) / 2 < l.length := by omega
    unfold Xrecord_Step_1_1 Yrecord_Step_1_1
    rw [RV_len, if_pos (by omega), Int.toNat_natCast]
    refine asR1 hlt ?_
    dsimp only
    have e1 : w64 ((((i + j) / 2 : Nat) : Int) + 1) = (((i + j) / 2 + 1 : Nat) : Int) := by rw [w64_in (by omega) (by omega)]; omega
    cases hq : decide ((l[(i + j) / 2]).1 ≥ a)
    · rw [if_pos (show (!false) = true from rfl), e1]
      refine hk _ ⟨(i + j) / 2 + 1, j, _, hb.low (ge_mono hs a) (by omega) (by omega) hlt hq, rfl⟩ ?_
      show ((j : Int) - (((i + j) / 2 + 1 : Nat) : Int)).toNat < ((j : Int) - (i : Int)).toNat
      omega
    · rw [if_neg (by simp)]
      refine hk _ ⟨i, (i + j) / 2, _, hb.high (ge_mono hs a) (by omega) (by omega) hlt hq, rfl⟩ ?_
      show ((((i + j) / 2 : Nat) : Int) - (i : Int)).toNat < ((j : Int) - (i : Int)).toNat
      omega
theorem zStep (l : List Rec) (h : recRight l = true) (hl : l.length ≤ 1000) (a : Int) {K : Int → Prop} (hk : K (sumR l a - sumR l (a - 1))) : Xrecord_Step (RV l) a K := by
  unfold Xrecord_Step Yrecord_Step
  refine sLeaps l (by omega) ?_
  rw [RV_len]
  have hl2 : (leapsR l).length ≤ 1000 := by rw [leapsR_len]; split <;> omega
  refine sSearchT (leapsR l) (srt_leaps (srt_rec h)) (by omega) _ _ _ fun o f => ?_
  have hle := fl_le (fun c : Rec => decide (c.1 ≥ a)) (leapsR l)
  have hx := sum_next h a
  simp only at hx
  generalize Pl.fl (fun c : Rec => decide (c.1 ≥ a)) (leapsR l) = m at *
  rw [RV_len]
  simp only [beq_iff_eq, bne_iff_ne]
  by_cases em : m = (leapsR l).length
  · rw [if_pos (by omega)]
    rcases hx with ⟨hm, _⟩ | ⟨_, q1, q2⟩
    · omega
    · rw [q1, q2] at hk; simpa using hk
  · have hm : m < (leapsR l).length := by omega
    rw [if_neg (by omega), if_pos (by omega), Int.toNat_natCast]
    refine asR1 hm ?_
    rcases hx with ⟨_, he, q1, q2⟩ | ⟨hno, q1, q2⟩
    · rw [if_neg (by simpa using he)]
      rw [q1, q2] at hk
      have hb1 := sm_bd h m (by omega)
      have hb2 := sm_bd h (m + 1) (by omega)
      have hs1 : sm (leapsR l) (m + 1) = ((leapsR l)[m]).2 := by
        unfold sm; rw [if_neg (by omega), Nat.add_sub_cancel, getD_at _ _ _ hm]
      by_cases m0 : m = 0
      · rw [if_pos (by omega), if_pos (by omega)]
        subst m0
        refine asR2 (by omega) ?_
        rw [hs1] at hk
        simpa [sm] using hk
      · rw [if_neg (by omega), if_pos (by omega)]
        refine asR2 hm ?_
        have e1 : w64 ((m : Int) - 1) = ((m - 1 : Nat) : Int) := by rw [w64_in (by omega) (by omega)]; omega
        rw [e1, if_pos (by omega), Int.toNat_natCast]
        refine asR2 (by omega) ?_
        have hs0 : sm (leapsR l) m = ((leapsR l)[m - 1]'(by omega)).2 := by
          unfold sm; rw [if_neg m0, getD_at _ _ _ (by omega)]
        rw [← hs1, ← hs0, w64_in (by omega) (by omega)]
        exact hk
    · rw [if_pos (by simpa using hno hm)]
      rw [q1, q2] at hk; simpa using hk
end Go.Proofs.YtodmkipcgfodkaaGreatDoor
end
section
set_option linter.unusedVariables false
set_option linter.unusedSimpArgs false
namespace Go.Proofs.YtodmkipcgfodkaaGreatDoor
open Go Go.Proofs.YtodmkipcgfodkaaGreatDoor.Eng Go.Proofs.YtodmkipcgfodkaaGreatDoor.Pl
set_option linter.unusedVariables false
set_option linter.unusedSimpArgs false
set_option maxRecDepth 100000
set_option maxHeartbeats 2000000
theorem kEnd (n : Int) {K} (h : K (endD n)) : Xday_End n K := by
  unfold Xday_End Yday_End
  refine sday n ?_
  unfold endD at h
  by_cases e : -719162 ≤ n ∧ n ≤ 2932896
  · rw [if_pos e]
    rw [decide_eq_true e, Bool.true_and] at h
    refine slast _ _ ?_
    obtain ⟨⟨v1, v2, v3, v4, _⟩, _⟩ := num_date e.1 e.2
    rw [if_pos rfl, if_pos ⟨v1, v2, v3, v4⟩]; exact h
  · rw [if_neg e]
    rw [decide_eq_false e, Bool.false_and] at h
    refine slast _ _ ?_
    rw [if_neg (by simp)]; exact h
theorem kWrong (k : Nat) (l : LR) (ahead : Int) {K} (h : K (wrongL k l ahead)) : Xleap_wrong (k : Int) (l.1, l.2.1, l.2.2, ()) ahead K := by
  unfold Xleap_wrong Yleap_wrong
  unfold wrongL at h
  dsimp only
  simp only [decide_eq_true_eq, bne_iff_ne, ne_eq]
  by_cases h1 : 200 ≤ k
  · rw [if_pos h1] at h; rw [if_pos (by omega)]; exact h
  rw [if_neg h1] at h; rw [if_neg (by omega)]
  have rest : ¬ (l.1 < 730 ∨ 2932896 ≤ l.1) → Xday_End l.1 (fun r => if (!r) = true then K 5 else if ¬ l.2.1 = 1 then (if ¬ l.2.1 = -1 then K 6 else if l.1 ≤ ahead then K 4 else K 0) else if l.1 ≤ ahead then K 4 else K 0) := fun h2 => by
    rw [if_neg h2] at h
    refine kEnd _ ?_
    cases he : endD l.1
    · rw [if_pos he] at h; exact h
    · rw [if_neg (by simp [he])] at h
      rw [if_neg (by simp)]
      by_cases s1 : l.2.1 = 1
      · rw [if_neg (by omega)] at h; rw [if_neg (by omega)]
        by_cases h4 : l.1 ≤ ahead
        · rw [if_pos h4] at h; rw [if_pos h4]; exact h
        · rw [if_neg h4] at h; rw [if_neg h4]; exact h
      · rw [if_pos s1]
        by_cases s2 : l.2.1 = -1
        · rw [if_neg (by omega)] at h; rw [if_neg (by omega)]
          by_cases h4 : l.1 ≤ ahead
          · rw [if_pos h4] at h; rw [if_pos h4]; exact h
          · rw [if_neg h4] at h; rw [if_neg h4]; exact h
        · rw [if_pos ⟨s1, s2⟩] at h; rw [if_pos s2]; exact h
  by_cases h2 : l.1 < 730
  · rw [if_pos (.inl h2)] at h
    rw [if_pos h2, if_pos h2]; exact h
  rw [if_neg h2]
  by_cases h3 : l.1 ≥ 2932896
  · rw [if_pos (.inr h3)] at h
    rw [if_pos h3]; exact h
  rw [if_neg h3]
  exact rest (by omega)
theorem kCheck (t : Tb) (hl : t.ls.length ≤ 1000000) {K} (h : K ((checkT t).1 : Int) (checkT t).2) : Xleap_Check (TLV t.ls, t.has, t.ex, ()) K := by
  unfold Xleap_Check Yleap_Check
  rw [TLV_len]
  unfold checkT at h
  refine lp_ind (fun x => t.ls.length - x.1.2.2.2.2.2.2.1.toNat) (fun x => ∃ (j : Nat) (a : Int), j ≤ t.ls.length ∧ 729 ≤ a ∧ a ≤ 2932896 ∧ checkG j a (t.ls.drop j) = checkG 0 729 t.ls ∧
    x = (((), 0, 0, a, TLV t.ls, (t.ls.length : Int), (j : Int), ()), (TLV t.ls, t.has, t.ex, ()), ())) ?_ ⟨0, 729, by omega, by omega, by omega, rfl, rfl⟩
  rintro x ⟨j, a, hj, ha, ha', hc, rfl⟩ k hk
  unfold Lleap_Check_0
  dsimp only
  rw [TLV_len, Int.toNat_natCast]
  by_cases e : j < t.ls.length
  · rw [if_pos (decide_eq_true (by omega)), if_pos (by omega)]
    refine asL1 e (asL2 e (asL3 e ?_))
    refine kWrong j (t.ls[j]) a ?_
    rw [List.drop_eq_getElem_cons e, checkG] at hc
    by_cases hw : wrongL j t.ls[j] a = 0
    · rw [if_neg (by simp [hw])]
      rw [if_neg (by simp [hw])] at hc
      obtain ⟨_, q1, q2, _⟩ := wrongL_0 hw
      have w1 : w64 ((j : Int) + 1) = ((j + 1 : Nat) : Int) := by rw [w64_in (by omega) (by omega)]; omega
      rw [w1]
      exact hk _ ⟨j + 1, _, e, by omega, by omega, hc, rfl⟩ (by show t.ls.length - Int.toNat ((j + 1 : Nat) : Int) < t.ls.length - Int.toNat (j : Int); omega)
    · rw [if_pos (by simpa using hw)]
      rw [if_pos hw] at hc
      rw [← hc, if_pos hw] at h
      exact h
  · rw [if_neg (dneg (by omega))]
    have : j = t.ls.length := by omega
    subst this
    rw [List.drop_length, checkG] at hc
    rw [← hc, if_neg (by simp)] at h
    unfold expB at h
    simp only [lt]
    have w1 : w64 (w64 (a + 1) * 86400) = (a + 1) * 86400 := by rw [w64_in (n := a + 1) (by omega) (by omega), w64_in (by omega) (by omega)]
    rw [w1]
    cases hh : t.has
    · rw [hh] at h
      rw [if_neg (by simp)]
      rw [if_neg (by simp)] at h
      by_cases h1 : t.ex < 0
      · rw [if_pos (decide_eq_true h1)]
        rw [if_pos (by omega)] at h; exact h
      rw [if_neg (dneg h1)]
      by_cases h2 : t.ex > 0
      · rw [if_pos (decide_eq_true h2)]
        rw [if_pos (by omega)] at h; exact h
      rw [if_neg (dneg h2)]
      rw [if_neg (by omega)] at h; exact h
    · rw [hh, if_pos rfl] at h
      rw [if_pos rfl]
      generalize (if 63072000 > (a + 1) * 86400 then 63072000 else (a + 1) * 86400) = M at *
      by_cases h1 : t.ex < M
      · rw [if_pos (decide_eq_true h1)]
        rw [if_pos (.inl h1)] at h; exact h
      rw [if_neg (dneg h1)]
      by_cases h2 : t.ex > 253402300799
      · rw [if_pos (decide_eq_true h2)]
        rw [if_pos (.inr h2)] at h; exact h
      rw [if_neg (dneg h2)]
      rw [if_neg (by omega)] at h; exact h
theorem kRightT (t : Tb) (hl : t.ls.length ≤ 1000000) {K} (h : K (rightT t)) : Xleap_Right (TLV t.ls, t.has, t.ex, ()) K := by
  unfold Xleap_Right Yleap_Right
  exact kCheck t hl h
end Go.Proofs.YtodmkipcgfodkaaGreatDoor
end
section
set_option linter.unusedVariables false
set_option linter.unusedSimpArgs false
namespace Go.Proofs.YtodmkipcgfodkaaGreatDoor
open Go Go.Proofs.YtodmkipcgfodkaaGreatDoor.Eng Go.Proofs.YtodmkipcgfodkaaGreatDoor.Pl
set_option linter.unusedVariables false
set_option linter.unusedSimpArgs false
set_option maxRecDepth 100000
set_option maxHeartbeats 4000000
theorem tlv_snoc (ls : List LR) (a b : Int) : TLV ls ++ [V.agg [V.c (.int .i64 a), V.c (.int .i64 b), V.c (.bool false)]] = TLV (ls ++ [(a, b, false)]) := by simp [TLV, eLR]
theorem room24 (n : Nat) (h : n ≤ 100000000) : roomOk n 24 = true := by
  unfold roomOk; simp only [decide_eq_true_eq]; omega
theorem min00 (n : Int) : (if 0 < n then 0 else n) = min n 0 := by split <;> omega
theorem sTable (l : List Rec) (hr : recRight l = true) (hi : recI l) {K : _ → Bool → List V → Bool → Bool → Prop}
    (h : ∀ o f, K ((), (tabT l).1.has, (tabT l).1.ex, ()) (tabT l).2 (TLV (tabT l).1.ls) o f) : Xrecord_Table (RV l) K := by
  unfold Xrecord_Table Yrecord_Table
  have hlen := recOk_len l hr
  have hb : recB l := recB_of hr fun c hc => (hi c hc).1.2
  have hb' : recB (leapsR l) := fun c hc => hb c (leapsR_sub hc)
  have hll : (leapsR l).length ≤ l.length := by rw [leapsR_len]; split <;> omega
  refine sLeaps l (by omega) ?_
  rw [RV_len]
  refine lp_ind (fun x => (leapsR l).length - x.1.2.2.2.2.2.2.2.1.toNat) (fun x => ∃ (j : Nat) (ls : List LR) (s : Int), j ≤ (leapsR l).length ∧ ls.length = j ∧ (-300 ≤ s ∧ s ≤ 300) ∧ s = stepsL ls ∧
    tabG 0 (leapsR l) = (tabG s ((leapsR l).drop j)).map (ls ++ ·) ∧ x = ((RV l, (), false, s, (), (), ((leapsR l).length : Int), (j : Int), ()), ((), false, 0, ()), (RV (leapsR l), false, true), TLV ls, ())) ?_
    ⟨0, [], 0, by omega, rfl, by omega, rfl, by rw [List.drop_zero]; cases tabG 0 (leapsR l) <;> simp, rfl⟩
  rintro x ⟨j, ls, s, hj, hls, hs, hss, htab, rfl⟩ k hk
  unfold Lrecord_Table_0
  simp only [RV_len, Int.toNat_natCast]
  by_cases e : j < (leapsR l).length
  · rw [if_pos (decide_eq_true (by omega)), if_pos (by omega)]
    refine asR1 e (asR2 e ?_)
    have hc := hb' _ (List.getElem_mem e)
    rw [List.drop_eq_getElem_cons e] at htab
    generalize (leapsR l)[j] = c at *
    have e1 : w64 (c.2 - s) = c.2 - s := w64_in (by omega) (by omega)
    simp only [lt, e1, min00]
    have hx : w64 (w64 (c.1 - s) - min (c.2 - s) 0) = tabX s c := rfl
    rw [hx]
    have hxb : -9223372036854775808 ≤ tabX s c ∧ tabX s c ≤ 9223372036854775807 := w64_bd _
    refine sdiv _ _ hxb.1 hxb.2 (by decide) (by decide) ?_
    rw [tabG] at htab
    by_cases hm : tabX s c % 86400 = 0
    · rw [if_neg (by simp [hm])]
      rw [if_pos hm] at htab
      have e2 : w64 (tabX s c / 86400 - 1) = tabX s c / 86400 - 1 := w64_in (by omega) (by omega)
      have e3 : w64 ((j : Int) + 1) = ((j + 1 : Nat) : Int) := by rw [w64_in (by omega) (by omega)]; omega
      rw [if_pos (room24 _ (by rw [TLV_len]; simp; omega)), e2, tlv_snoc, e3]
      refine hk _ ⟨j + 1, ls ++ [(tabX s c / 86400 - 1, c.2 - s, false)], c.2, e, by simp [hls], ⟨hc.2.2.1, hc.2.2.2⟩, ?_, ?_, rfl⟩ ?_
      · rw [stepsL_app, ← hss]; simp [stepsL]; omega
      · rw [htab, Option.map_map]
        congr 1
        funext y
        simp
      · show (leapsR l).length - ((j + 1 : Nat) : Int).toNat < (leapsR l).length - ((j : Nat) : Int).toNat
        omega
    · rw [if_pos (by simp [hm])]
      rw [if_neg hm] at htab
      have ht : tabT l = (tb0, false) := by unfold tabT; rw [htab]; rfl
      rw [ht] at h
      exact h true true
  have hj' : j = (leapsR l).length := by omega
  subst hj'
  rw [if_neg (dneg (by omega))]
  rw [List.drop_length, tabG] at htab
  simp only [Option.map_some, List.append_nil] at htab
  have ht : tabT l = if rightT (tabE l ls) = true then (tabE l ls, true) else (tb0, false) := by unfold tabT; rw [htab]
  rw [leapsR_len] at hls ⊢
  have fin : ∀ (o f : Bool), Xleap_Right (TLV ls, (tabE l ls).has, (tabE l ls).ex, ()) (fun r => if (!r) = true then K ((), false, 0, ()) false [] true true else K ((), (tabE l ls).has, (tabE l ls).ex, ()) true (TLV ls) o f) := fun o f => by
    refine kRightT (tabE l ls) (by show ls.length ≤ 1000000; split at hls <;> omega) ?_
    cases hq : rightT (tabE l ls)
    · rw [if_pos (by rfl)]
      rw [hq] at ht
      rw [ht] at h
      exact h true true
    · rw [if_neg (by simp)]
      rw [hq, if_pos rfl] at ht
      rw [ht] at h
      exact h o f
  cases hle : lastExp l
  · have hE : tabE l ls = ⟨ls, false, 0⟩ := by unfold tabE; rw [hle]; simp
    rw [hE] at fin
    simp only [Bool.false_eq_true, if_false]
    rw [if_neg (dneg (by omega))]
    have : decide ((l.length : Int) < (l.length : Int)) = false := by simp
    rw [this]
    exact fin true false
  · have hp := lastExp_pos hle
    have hE : tabE l ls = ⟨ls, true, w64 ((l.getD (l.length - 1) (0, 0)).1 - s)⟩ := by unfold tabE; rw [hle, hss]; simp
    rw [hE] at fin
    try simp only [if_true]
    rw [if_pos (decide_eq_true (by omega)), if_pos (by omega)]
    try simp only [Int.toNat_natCast]
    refine asR1 (show l.length - 1 < l.length by omega) ?_
    have : decide (((l.length - 1 : Nat) : Int) < (l.length : Int)) = true := decide_eq_true (by omega)
    rw [this]
    rw [getD_at _ _ _ (show l.length - 1 < l.length by omega)] at fin
    exact fin true false
theorem sScKnown (l : List Rec) (hi : recI l) (hl : l.length ≤ 100000) {K : Bool → Prop} (h : K (knownR l)) : Xscale_Known (RV l) K := by
  unfold Xscale_Known Yscale_Known
  unfold knownR at h
  refine sRecRight l hi hl ?_
  cases hr : recRight l
  · rw [if_pos (by rfl)]
    rw [hr] at h; exact h
  · rw [if_neg (by simp)]
    rw [hr, Bool.true_and] at h
    exact sTable l hr hi fun o f => h
/-- When what is known ends. -/
def expV (l : List Rec) : Int := if lastExp l = true then (l.getD (l.length - 1) (0, 0)).1 else 0
def pastR (l : List Rec) (a : Int) : Bool := lastExp l && decide (a ≥ expV l)
theorem sExpV (l : List Rec) (hl : l.length ≤ 100000) {K : Int → Bool → Prop} (h : K (expV l) (lastExp l)) : Xrecord_Expiry (RV l) K := by
  unfold Xrecord_Expiry Yrecord_Expiry
  refine sLeaps l hl ?_
  unfold expV at h
  simp only [RV_len, decide_eq_true_eq, leapsR_len]
  cases e : lastExp l
  · rw [if_neg (by simp)]
    rw [e] at h; exact h
  · have := lastExp_pos e
    rw [if_pos (by simp; omega), if_pos (by simp; omega)]
    simp only [if_true, Int.toNat_natCast]
    refine asR1 (by omega) ?_
    rw [e, if_pos rfl, getD_at _ _ _ (show l.length - 1 < l.length by omega)] at h
    exact h
theorem sPast (l : List Rec) (hl : l.length ≤ 100000) (a : Int) {K : Bool → Prop} (h : K (pastR l a)) : Xscale_expired (RV l) a K := by
  unfold Xscale_expired Yscale_expired
  refine sExpV l hl ?_
  unfold pastR at h
  cases e : lastExp l
  · rw [if_neg (by simp)]
    rw [e] at h; exact h
  · rw [if_pos rfl]
    rw [e] at h; exact h
def utcR (l : List Rec) (t : Int) : Int × Int × Int :=
  if knownR l = false then (0, 0, 1) else if t < 0 then (0, 0, 9) else
  if t + 63072000 ≤ 9223372036854775807 then (if pastR l (t + 63072000) = true then (0, 0, 10) else if utcD l (t + 63072000) > 2932896 then (0, 0, 9) else (utcD l (t + 63072000), utcS l (t + 63072000), 0))
  else if pastR l 9223372036854775807 = true then (0, 0, 10) else (0, 0, 9)
theorem known_right {l : List Rec} (h : knownR l = true) : recRight l = true ∧ (tabT l).2 = true := by
  unfold knownR at h; simpa using h
theorem sumR_b (l : List Rec) (hr : recRight l = true) (a : Int) : -201 ≤ sumR l a ∧ sumR l a ≤ 201 := by
  have hlen := recOk_len l hr
  unfold sumR
  split
  · omega
  · rename_i c hc
    have hm := leapsR_sub (List.mem_of_mem_take (List.mem_of_getLast? hc))
    obtain ⟨i, hi, rfl⟩ := List.getElem_of_mem hm
    have := recOk_bd l 0 _ hr i hi
    simp only at this
    omega
theorem sUtc (l : List Rec) (hi : recI l) (hl : l.length ≤ 1000) (t : Int) (ht : i64r t) {K : Int → Int → Int → Prop} (h : K (utcR l t).1 (utcR l t).2.1 (utcR l t).2.2) : Xscale_Utc (RV l) t K := by
  unfold Xscale_Utc Yscale_Utc
  unfold i64r at ht
  unfold utcR at h
  refine sadd t 63072000 ht (by decide) ?_
  have tail : knownR l = true → 0 ≤ t → t + 63072000 ≤ 9223372036854775807 → (if utcD l (t + 63072000) > 2932896 then K 0 0 9 else K (utcD l (t + 63072000)) (utcS l (t + 63072000)) 0) →
      Xrecord_Sum (RV l) (t + 63072000) (fun r7 => Xnum_Sub (t + 63072000) r7 (fun r8 r9 => Xnum_Div r8 86400 (fun r10 r11 r12 => Xrecord_Step (RV l) (t + 63072000) (fun r13 =>
        (if decide (r13 > 0) = true then (if (!r9) = true then K 0 0 9 else (if decide (r10 > 2932896) = true then K 0 0 9 else K r10 (w64 (r11 + 1)) 0))
         else (if (!r9) = true then K 0 0 9 else (if decide (r10 > 2932896) = true then K 0 0 9 else K r10 r11 0)))))) ) := by
    intro hk h0 h1 h
    obtain ⟨hr, _⟩ := known_right hk
    have hsb := sumR_b l hr (t + 63072000)
    refine sSum l (srt_leaps (srt_rec hr)) (by omega) _ ?_
    refine ssub _ _ (by unfold i64r; omega) (by unfold i64r; omega) (fun hin => ?_) (fun hno => ?_)
    · unfold i64r at hin
      refine sdiv _ _ hin.1 hin.2 (by decide) (by decide) ?_
      refine zStep l hr hl _ ?_
      unfold utcD utcS stepR at h
      generalize hp : t + 63072000 - sumR l (t + 63072000) = p at *
      by_cases hst : sumR l (t + 63072000) - sumR l (t + 63072000 - 1) > 0
      · rw [if_pos (decide_eq_true hst), if_neg (by simp)]
        rw [if_pos hst] at h
        by_cases hd : p / 86400 > 2932896
        · rw [if_pos (decide_eq_true hd)]
          rw [if_pos hd] at h; exact h
        · rw [if_neg (dneg hd), w64_in (by omega) (by omega)]
          rw [if_neg hd] at h; exact h
      · rw [if_neg (dneg hst), if_neg (by simp)]
        rw [if_neg hst, Int.add_zero] at h
        by_cases hd : p / 86400 > 2932896
        · rw [if_pos (decide_eq_true hd)]
          rw [if_pos hd] at h; exact h
        · rw [if_neg (dneg hd)]
          rw [if_neg hd] at h; exact h
    · unfold i64r at hno
      refine sdiv _ _ (by decide) (by decide) (by decide) (by decide) ?_
      refine zStep l hr hl _ ?_
      have hd : utcD l (t + 63072000) > 2932896 := by unfold utcD; omega
      rw [if_pos hd] at h
      split
      · rw [if_pos (by simp)]; exact h
      · rw [if_pos (by simp)]; exact h
  have hadd : -9223372036854775808 ≤ t + 63072000 := by omega
  by_cases hf : t + 63072000 ≤ 9223372036854775807
  · rw [if_pos ⟨hadd, hf⟩]
    refine sScKnown l hi (by omega) ?_
    cases hk : knownR l
    · rw [hk, if_pos rfl] at h
      rw [if_pos (by rfl)]; exact h
    rw [hk, if_neg (by simp)] at h
    rw [if_neg (by simp)]
    by_cases h0 : t < 0
    · rw [if_pos h0] at h
      rw [if_pos (decide_eq_true h0)]; exact h
    rw [if_neg h0, if_pos hf] at h
    rw [if_neg (dneg h0), if_pos rfl]
    refine sPast l (by omega) _ ?_
    cases hp : pastR l (t + 63072000)
    · rw [hp, if_neg (by simp)] at h
      rw [if_neg (by simp), if_neg (by simp), if_neg (by simp)]
      refine tail hk (by omega) hf ?_
      by_cases hd : utcD l (t + 63072000) > 2932896
      · rw [if_pos hd] at h ⊢; exact h
      · rw [if_neg hd] at h ⊢; exact h
    · rw [hp, if_pos rfl] at h
      rw [if_pos rfl]; exact h
  · rw [if_neg (by omega)]
    refine sScKnown l hi (by omega) ?_
    cases hk : knownR l
    · rw [hk, if_pos rfl] at h
      rw [if_pos (by rfl)]; exact h
    rw [hk, if_neg (by simp)] at h
    rw [if_neg (by simp)]
    by_cases h0 : t < 0
    · omega
    rw [if_neg h0, if_neg hf] at h
    rw [if_neg (dneg h0), if_neg (by simp), if_pos (by rfl)]
    refine sPast l (by omega) _ ?_
    cases hp : pastR l 9223372036854775807
    · rw [hp, if_neg (by simp)] at h
      rw [if_neg (by simp), if_pos (by rfl)]; exact h
    · rw [hp, if_pos rfl] at h
      rw [if_pos rfl]; exact h
end Go.Proofs.YtodmkipcgfodkaaGreatDoor
end
section
set_option linter.unusedVariables false
set_option linter.unusedSimpArgs false
namespace Go.Proofs.YtodmkipcgfodkaaGreatDoor
open Go Go.Proofs.YtodmkipcgfodkaaGreatDoor.Eng Go.Proofs.YtodmkipcgfodkaaGreatDoor.Pl
set_option linter.unusedVariables false
set_option linter.unusedSimpArgs false
set_option maxRecDepth 100000
set_option maxHeartbeats 4000000
def fndD (ls : List LR) (d : Int) : Bool := decide (cntD ls d < ls.length) && (ls.getD (cntD ls d) (-1, 0, false)).1 == d
theorem half_nat (i j : Nat) (h : i + j ≤ 1000000) : Int.fdiv (wu64 (w64 ((i : Int) + (j : Int)))) 2 = (((i + j) / 2 : Nat) : Int) := by
  rw [w64_in (by omega) (by omega)]
  have : wu64 ((i : Int) + (j : Int)) = (i : Int) + (j : Int) := by
    simp only [wu64, IntKind.wrap, IntKind.bits, IntKind.signed]
    simp
    omega
  rw [this, Int.fdiv_eq_ediv_of_nonneg _ (by decide)]; omega
theorem sBin {t : Tb} (ht : TU t) (d : Int) (hd : -3000000 ≤ d ∧ d ≤ 3000000) {K : Int → Bool → Prop} (h : K (cntD t.ls d : Int) (fndD t.ls d)) : Xslices_BinarySearchFunc___api_Leap_api_Leap_int_ (TLV t.ls) d K := by
  unfold Xslices_BinarySearchFunc___api_Leap_api_Leap_int_ Yslices_BinarySearchFunc___api_Leap_api_Leap_int_
  have hlen := ht.len
  obtain ⟨c1, c2⟩ := cnt_spec ht d
  refine lp_ind (fun x => (x.1.2.2.2.2.2.2.2.1 - x.1.2.2.2.2.2.2.1).toNat) (fun x => ∃ (i j : Nat), i ≤ cntD t.ls d ∧ cntD t.ls d ≤ j ∧ j ≤ t.ls.length ∧
    x = ((TLV t.ls, d, ((), ()), 0, false, (t.ls.length : Int), (i : Int), (j : Int), ()), ())) ?_ ⟨0, t.ls.length, by omega, c1, by omega, by rw [TLV_len]; rfl⟩
  rintro x ⟨i, j, h1, h2, h3, rfl⟩ k hk
  unfold Lslices_BinarySearchFunc___api_Leap_api_Leap_int__0 Xscale_step_1 Yscale_step_1
  simp only [lt, half_nat i j (by omega), TLV_len]
  have hm : w64 (((i + j) / 2 : Nat) : Int) = (((i + j) / 2 : Nat) : Int) := w64_in (by omega) (by omega)
  rw [hm]
  by_cases e : i < j
  · have hlt : (i + j) / 2 < t.ls.length := by omega
    have hday := ht.day hlt
    rw [if_pos (decide_eq_true (by omega)), if_pos (by omega)]
    simp only [Int.toNat_natCast]
    refine asL1 hlt (asL2 hlt (asL3 hlt ?_))
    rw [w64_in (by omega) (by omega)]
    have hc := c2 _ hlt
    by_cases e2 : (t.ls[(i + j) / 2]).1 < d
    · rw [if_pos (decide_eq_true (by omega)), w64_in (by omega) (by omega)]
      exact hk _ ⟨(i + j) / 2 + 1, j, by omega, h2, h3, by rw [show (((i + j) / 2 : Nat) : Int) + 1 = (((i + j) / 2 + 1 : Nat) : Int) by omega]⟩ (by dsimp only; omega)
    · rw [if_neg (dneg (by omega))]
      exact hk _ ⟨i, (i + j) / 2, h1, by omega, by omega, rfl⟩ (by dsimp only; omega)
  · have ei : i = cntD t.ls d := by omega
    rw [if_neg (dneg (by omega))]
    unfold fndD at h
    rw [← ei] at h
    by_cases e3 : i < t.ls.length
    · have hday := ht.day e3
      rw [if_pos (decide_eq_true (by omega)), if_pos (by omega)]
      simp only [Int.toNat_natCast]
      refine asL1 e3 (asL2 e3 (asL3 e3 ?_))
      rw [w64_in (by omega) (by omega)]
      rw [decide_eq_true e3, List.getD, List.getElem?_eq_getElem e3, Option.getD_some, Bool.true_and] at h
      have : ((t.ls[i]).1 - d == 0) = ((t.ls[i]).1 == d) := by rw [Bool.eq_iff_iff, beq_iff_eq, beq_iff_eq]; omega
      rw [this]; exact h
    · rw [if_neg (dneg (by omega))]
      rw [decide_eq_false e3] at h; exact h
theorem sScStep (l : List Rec) (hk : knownR l = true) (hi : recI l) (d : Int) (hd : -3000000 ≤ d ∧ d ≤ 3000000) {K : Int → Prop} (h : K (stepD (tabT l).1.ls d)) : Xscale_step (RV l) d K := by
  unfold Xscale_step Yscale_step
  obtain ⟨hr, ht⟩ := known_right hk
  obtain ⟨tu, _⟩ := tab_rec (recB_of hr fun c hc => (hi c hc).1.2) ht
  refine sTable l hr hi fun o f => ?_
  refine sBin tu d hd ?_
  obtain ⟨c1, c2⟩ := cnt_spec tu d
  unfold fndD
  unfold stepD at h
  generalize (tabT l).1.ls = ls at *
  by_cases e : cntD ls d < ls.length
  · rw [List.getD, List.getElem?_eq_getElem e, Option.getD_some] at h ⊢
    rw [decide_eq_true e, Bool.true_and]
    by_cases e2 : (ls[cntD ls d]).1 = d
    · rw [if_pos e2] at h
      rw [if_neg (by simp [e2]), TLV_len, if_pos (by omega)]
      simp only [Int.toNat_natCast]
      exact asL2 e h
    · rw [if_neg e2] at h
      rw [if_pos (by simp [e2])]; exact h
  · rw [List.getD, List.getElem?_eq_none (by omega), Option.getD_none] at h
    rw [decide_eq_false e, if_pos (by simp)]
    split at h <;> exact h
theorem sBegins (l : List Rec) (hk : knownR l = true) (hi : recI l) (d : Int) (hd : -3000000 ≤ d ∧ d ≤ 3000000) {K : Int → Prop} (h : K (strt (tabT l).1.ls d)) : Xscale_begins (RV l) d K := by
  unfold Xscale_begins Yscale_begins
  obtain ⟨hr, ht⟩ := known_right hk
  obtain ⟨tu, _⟩ := tab_rec (recB_of hr fun c hc => (hi c hc).1.2) ht
  refine sTable l hr hi fun o f => ?_
  have hlen := tu.len
  obtain ⟨c1, c2⟩ := cnt_spec tu d
  have hsum := fun i => tu.sum i
  have hstp := fun (i : Nat) (hi : i < (tabT l).1.ls.length) => tu.stp hi
  unfold strt at h
  generalize (tabT l).1.ls = ls at *
  rw [TLV_len]
  have fin : ∀ s : Int, s = sumT ls (cntD ls d) → K (w64 (w64 (d * 86400) + s)) := fun s hs => by
    have := hsum (cntD ls d)
    rw [w64_in (n := d * 86400) (by omega) (by omega), w64_in (by omega) (by omega), hs]; exact h
  by_cases e0 : 0 < ls.length
  · rw [if_pos (decide_eq_true (by omega)), if_pos (by omega)]
    refine asL1 e0 ?_
    have h0 := c2 0 e0
    by_cases e1 : (ls[0]).1 < d
    · rw [if_pos (decide_eq_true e1), if_pos (by omega)]
      refine asL2 e0 ?_
      have st0 := hstp 0 e0
      have hs0 : (ls[0]).2.1 = Pl.stepT ls 0 := by unfold Pl.stepT; rw [List.getD, List.getElem?_eq_getElem e0]; rfl
      have hs1 := sumT_succ e0
      have hz : sumT ls 0 = 0 := by simp [sumT, stepsL]
      rw [hs0, w64_in (n := 0 + Pl.stepT ls 0) (by omega) (by omega)]
      have hpos : 1 ≤ cntD ls d := by have := h0.2 e1; omega
      refine lp_ind (fun x => ls.length - x.1.2.2.2.2.1.toNat) (fun x => ∃ (k : Nat), 1 ≤ k ∧ k ≤ cntD ls d ∧ x = ((RV l, d, 0, (), (k : Int), sumT ls k, ()), ((), (tabT l).1.has, (tabT l).1.ex, ()), (TLV ls, o, f), ())) ?_ ⟨1, by omega, hpos, by rw [hs1, hz]; rfl⟩
      rintro x ⟨k, hk1, hk2, rfl⟩ kk hkk
      unfold Lscale_begins_0
      simp only [TLV_len, Int.toNat_natCast, lt]
      by_cases e2 : k < ls.length
      · rw [if_pos (decide_eq_true (by omega)), if_pos (by omega)]
        refine asL1 e2 ?_
        have hc := c2 k e2
        by_cases e3 : (ls[k]).1 < d
        · rw [if_pos (decide_eq_true e3), if_pos (by omega)]
          refine asL2 e2 ?_
          have st := hstp k e2
          have hs := sumT_succ e2
          have hb := hsum k
          have hsk : (ls[k]).2.1 = Pl.stepT ls k := by unfold Pl.stepT; rw [List.getD, List.getElem?_eq_getElem e2]; rfl
          rw [hsk, w64_in (n := (k : Int) + 1) (by omega) (by omega), w64_in (n := sumT ls k + Pl.stepT ls k) (by omega) (by omega), ← hs]
          exact hkk _ ⟨k + 1, by omega, by have := hc.2 e3; omega, by rfl⟩ (by dsimp only; omega)
        · rw [if_neg (dneg e3)]
          refine fin _ ?_
          have : k = cntD ls d := by omega
          rw [this]
      · rw [if_neg (dneg (by omega))]
        refine fin _ ?_
        have : k = cntD ls d := by omega
        rw [this]
    · rw [if_neg (dneg e1)]
      refine fin 0 ?_
      have : cntD ls d = 0 := by omega
      rw [this]; simp [sumT, stepsL]
  · rw [if_neg (dneg (by omega))]
    refine fin 0 ?_
    have : cntD ls d = 0 := by omega
    rw [this]; simp [sumT, stepsL]
def lenR (l : List Rec) (d : Int) : Int × Int := if knownR l = false then (0, 1) else if d < 730 ∨ 2932896 < d then (0, 9) else (86400 + stepD (tabT l).1.ls d, 0)
theorem sScLength (l : List Rec) (hi : recI l) (hl : l.length ≤ 1000) (d : Int) {K : Int → Int → Prop} (h : K (lenR l d).1 (lenR l d).2) : Xscale_Length (RV l) d K := by
  unfold Xscale_Length Yscale_Length
  unfold lenR at h
  refine sScKnown l hi (by omega) ?_
  cases hk : knownR l
  · rw [hk, if_pos rfl] at h
    rw [if_pos (by rfl)]; exact h
  rw [hk, if_neg (by simp)] at h
  rw [if_neg (by simp)]
  by_cases h1 : d < 730
  · rw [if_pos (.inl h1)] at h
    rw [if_pos (decide_eq_true h1), if_pos (decide_eq_true h1)]; exact h
  rw [if_neg (dneg h1)]
  by_cases h2 : 2932896 < d
  · rw [if_pos (.inr h2)] at h
    rw [if_pos (decide_eq_true h2)]; exact h
  rw [if_neg (by omega)] at h
  rw [if_neg (dneg h2)]
  refine sScStep l hk hi d (by omega) ?_
  obtain ⟨hr, ht⟩ := known_right hk
  obtain ⟨tu, _⟩ := tab_rec (recB_of hr fun c hc => (hi c hc).1.2) ht
  have := stepD_bd tu d
  rw [w64_in (by omega) (by omega)]; exact h
def taiR (l : List Rec) (d s : Int) : Int × Int :=
  if (lenR l d).2 ≠ 0 then (0, (lenR l d).2) else if s < 0 ∨ 86400 < s then (0, 9) else if s ≥ (lenR l d).1 then (0, 11) else
  if pastR l (strt (tabT l).1.ls d + s) = true then (0, 10) else (strt (tabT l).1.ls d + s - 63072000, 0)
theorem sScTai (l : List Rec) (hi : recI l) (hl : l.length ≤ 1000) (d s : Int) {K : Int → Int → Prop} (h : K (taiR l d s).1 (taiR l d s).2) : Xscale_Tai (RV l) d s K := by
  unfold Xscale_Tai Yscale_Tai
  unfold taiR at h
  refine sScLength l hi hl d ?_
  by_cases h0 : (lenR l d).2 ≠ 0
  · rw [if_pos h0] at h
    rw [if_pos (by simpa using h0)]; exact h
  rw [if_neg h0] at h
  rw [if_neg (by simpa using h0)]
  have hk : knownR l = true ∧ 730 ≤ d ∧ d ≤ 2932896 := by
    unfold lenR at h0
    split at h0
    · simp at h0
    · split at h0
      · simp at h0
      · rename_i a b
        refine ⟨by simpa using a, by omega, by omega⟩
  obtain ⟨hr, ht⟩ := known_right hk.1
  obtain ⟨tu, _⟩ := tab_rec (recB_of hr fun c hc => (hi c hc).1.2) ht
  by_cases h1 : s < 0
  · rw [if_pos (.inl h1)] at h
    rw [if_pos (decide_eq_true h1), if_pos (decide_eq_true h1)]; exact h
  rw [if_neg (dneg h1)]
  by_cases h2 : 86400 < s
  · rw [if_pos (.inr h2)] at h
    rw [if_pos (decide_eq_true h2)]; exact h
  rw [if_neg (by omega)] at h
  rw [if_neg (dneg h2)]
  by_cases h3 : s ≥ (lenR l d).1
  · rw [if_pos h3] at h
    rw [if_pos (decide_eq_true h3)]; exact h
  rw [if_neg h3] at h
  rw [if_neg (dneg h3)]
  refine sBegins l hk.1 hi d (by omega) ?_
  have hb : strt (tabT l).1.ls d = d * 86400 + sumT (tabT l).1.ls (cntD (tabT l).1.ls d) := rfl
  have := tu.sum (cntD (tabT l).1.ls d)
  rw [w64_in (n := strt (tabT l).1.ls d + s) (by omega) (by omega)]
  refine sPast l (by omega) _ ?_
  cases hp : pastR l (strt (tabT l).1.ls d + s)
  · rw [hp, if_neg (by simp)] at h
    rw [if_neg (by simp)]
    simp only [lt]
    rw [w64_in (by omega) (by omega)]; exact h
  · rw [hp, if_pos rfl] at h
    rw [if_pos rfl]; exact h
/-- POSIX seconds. -/
def ofP (d s : Int) : Int := d * 86400 + min s 86399
theorem sOfP (d s : Int) (hd : -719162 ≤ d ∧ d ≤ 2932896) (hs : 0 ≤ s ∧ s ≤ 86400) {K : Int → Bool → Prop} (h : K (ofP d s) true) : Xposix_Of d s K := by
  unfold Xposix_Of Yposix_Of
  rw [if_neg (dneg (by omega)), if_neg (dneg (by omega)), if_neg (dneg (by omega)), if_neg (dneg (by omega))]
  simp only [lt]
  unfold ofP at h
  have : (if 86399 < s then 86399 else s) = min s 86399 := by split <;> omega
  rw [this, w64_in (n := d * 86400) (by omega) (by omega), w64_in (by omega) (by omega)]; exact h
def fromR (l : List Rec) (t : Int) : Int × Int := if (utcR l t).2.2 = 0 then (ofP (utcR l t).1 (utcR l t).2.1, 0) else (0, (utcR l t).2.2)
theorem utcR_ok {l : List Rec} {t : Int} (h : (utcR l t).2.2 = 0) : knownR l = true ∧ 0 ≤ t ∧ pastR l (t + 63072000) = false ∧ utcR l t = (utcD l (t + 63072000), utcS l (t + 63072000), 0) ∧ utcD l (t + 63072000) ≤ 2932896 := by
  unfold utcR at h ⊢
  by_cases h1 : knownR l = false
  · rw [if_pos h1] at h; simp at h
  rw [if_neg h1] at h ⊢
  by_cases h2 : t < 0
  · rw [if_pos h2] at h; simp at h
  rw [if_neg h2] at h ⊢
  by_cases h3 : t + 63072000 ≤ 9223372036854775807
  · rw [if_pos h3] at h ⊢
    by_cases h4 : pastR l (t + 63072000) = true
    · rw [if_pos h4] at h; simp at h
    rw [if_neg h4] at h ⊢
    by_cases h5 : utcD l (t + 63072000) > 2932896
    · rw [if_pos h5] at h; simp at h
    rw [if_neg h5]
    exact ⟨by simpa using h1, by omega, by simpa using h4, rfl, by omega⟩
  · rw [if_neg h3] at h
    split at h <;> simp at h
theorem utc_bd {l : List Rec} (hi : recI l) {t : Int} (h : (utcR l t).2.2 = 0) : strt (tabT l).1.ls (utcR l t).1 + (utcR l t).2.1 = t + 63072000 ∧ 730 ≤ (utcR l t).1 ∧ (utcR l t).1 ≤ 2932896 ∧ 0 ≤ (utcR l t).2.1 ∧ (utcR l t).2.1 < 86400 + stepD (tabT l).1.ls (utcR l t).1 ∧ TU (tabT l).1 := by
  obtain ⟨hk, h0, h1, h2, h3⟩ := utcR_ok h
  obtain ⟨hr, ht⟩ := known_right hk
  obtain ⟨tu, hl⟩ := tab_rec (recB_of hr fun c hc => (hi c hc).1.2) ht
  obtain ⟨u1, u2, u3, _⟩ := utc_strt tu (t + 63072000)
  rw [← hl] at u1 u2 u3
  rw [h2]
  refine ⟨u1, ?_, h3, u2, u3, tu⟩
  simp only
  have e7 := strt_730 tu (Int.le_refl 730)
  have h7 : 63072000 ≤ t + 63072000 := by omega
  generalize utcD l (t + 63072000) = d at *
  generalize utcS l (t + 63072000) = s at *
  have hs := strt_succ tu d
  by_cases q : d < 730
  · have := strt_lt tu (show d + 1 ≤ 730 by omega)
    omega
  · omega
theorem sFrom (l : List Rec) (hi : recI l) (hl : l.length ≤ 1000) (t : Int) (ht : i64r t) {K : Int → Int → Prop} (h : K (fromR l t).1 (fromR l t).2) : Xposix_From (RV l) t K := by
  unfold Xposix_From Yposix_From
  refine sUtc l hi hl t ht ?_
  unfold fromR at h
  by_cases e : (utcR l t).2.2 = 0
  · rw [if_pos e] at h
    rw [if_pos (by simp [e])]
    obtain ⟨_, u1, u2, u3, u4, tu⟩ := utc_bd hi e
    have := stepD_bd tu (utcR l t).1
    refine sOfP _ _ (by omega) (by omega) ?_
    rw [e]; exact h
  · rw [if_neg e] at h
    rw [if_neg (by simpa using e)]; exact h
theorem sPDay (p : Int) (hp : i64r p) {K : Int → Int → Prop} (h : K (p / 86400) (p % 86400)) : Xposix_Day p K := by
  unfold Xposix_Day Yposix_Day
  exact sdiv _ _ hp.1 hp.2 (by decide) (by decide) h
def ptaiR (l : List Rec) (p : Int) : Int × Int := taiR l (p / 86400) (p % 86400)
theorem sPTai (l : List Rec) (hi : recI l) (hl : l.length ≤ 1000) (p : Int) (hp : i64r p) {K : Int → Int → Prop} (h : K (ptaiR l p).1 (ptaiR l p).2) : Xposix_Tai (RV l) p K := by
  unfold Xposix_Tai Yposix_Tai
  exact sPDay p hp (sScTai l hi hl _ _ h)
end Go.Proofs.YtodmkipcgfodkaaGreatDoor
end
section
set_option linter.unusedVariables false
set_option linter.unusedSimpArgs false
namespace Go.Proofs.YtodmkipcgfodkaaGreatDoor
open Go Go.Proofs.YtodmkipcgfodkaaGreatDoor.Eng Go.Proofs.YtodmkipcgfodkaaGreatDoor.Pl
set_option linter.unusedVariables false
set_option linter.unusedSimpArgs false
set_option maxRecDepth 100000
set_option maxHeartbeats 4000000
def tupC (c : Cv) : Int × Int × Int × Int × Int × Bool × ByteArray × Unit := (c.d, c.h, c.m, c.s, c.off, c.dst, S c.ab, ())
theorem sLWithin (n a : Int) {K} (h : K (decide (0 ≤ n ∧ n ≤ a))) : Xlocal_within n a K := by
  unfold Xlocal_within Ylocal_within
  by_cases e : n ≥ 0
  · rw [if_pos (decide_eq_true e)]
    rw [show decide (0 ≤ n ∧ n ≤ a) = decide (n ≤ a) by rw [Bool.eq_iff_iff, decide_eq_true_eq, decide_eq_true_eq]; omega] at h
    exact h
  · rw [if_neg (dneg e)]
    rw [show decide (0 ≤ n ∧ n ≤ a) = false by rw [decide_eq_false_iff_not]; omega] at h
    exact h
theorem pairP_len (n : Int) : (pairP n).length ≤ 42 := by
  unfold pairP
  have := itoaK_len (n / 10)
  have := itoaK_len (n % 10)
  rw [List.length_append]; omega
theorem sLPair (n : Int) (h0 : 0 ≤ n) (h1 : n ≤ 1000000) {K} (h : K (S (pairP n))) : Xlocal_pair n K := by
  unfold Xlocal_pair Ylocal_pair
  have l1 := itoaK_len (n / 10)
  have l2 := itoaK_len (n % 10)
  rw [Int.tdiv_eq_ediv_of_nonneg h0, Int.tmod_eq_emod_of_nonneg h0, w64_in (by omega) (by omega)]
  refine sitoa _ (by omega) (by omega) (sitoa _ (by omega) (by omega) ?_)
  rw [S_size, S_size, if_neg (by omega), S_append]
  exact h
theorem distB_len (off : Int) : (distB off).length ≤ 130 := by
  unfold distB
  generalize (if off < 0 then -off else off) = a
  have h1 := pairP_len (a / 3600)
  have h2 := pairP_len (a / 60 % 60)
  have h3 : (if a % 60 ≠ 0 then 58 :: pairP (a % 60) else []).length ≤ 43 := by
    have := pairP_len (a % 60)
    split
    · rw [List.length_cons]; omega
    · simp
  simp only [List.length_cons, List.length_append]
  omega
theorem sLDist (off : Int) (h0 : -1000000 ≤ off) (h1 : off ≤ 1000000) {K} (h : K (S (distB off))) : Xlocal_distance off K := by
  unfold Xlocal_distance Ylocal_distance
  have main : ∀ (g : UInt8) (a : Int), 0 ≤ a → a ≤ 1000000 → K (S (g :: (pairP (a / 3600) ++ 58 :: (pairP (a / 60 % 60) ++ (if a % 60 ≠ 0 then 58 :: pairP (a % 60) else []))))) →
      Xlocal_pair (w64 (Int.tdiv a 3600)) (fun r2 => (if ((ByteArray.size r2 + 1 : Nat) : Int) > 9223372036854775807 then False else
        Xlocal_pair (Int.tmod (w64 (Int.tdiv a 60)) 60) (fun r4 => (if ((ByteArray.size (r2 ++ ByteArray.mk #[(58 : UInt8)]) + ByteArray.size r4 : Nat) : Int) > 9223372036854775807 then False else
          (if ((1 + ByteArray.size (r2 ++ ByteArray.mk #[(58 : UInt8)] ++ r4) : Nat) : Int) > 9223372036854775807 then False else
          (if (Int.tmod a 60 != 0) = true then Xlocal_pair (Int.tmod a 60) (fun r6 => (if ((1 + ByteArray.size r6 : Nat) : Int) > 9223372036854775807 then False else
            (if ((ByteArray.size (ByteArray.mk #[g] ++ (r2 ++ ByteArray.mk #[(58 : UInt8)] ++ r4)) + ByteArray.size (ByteArray.mk #[(58 : UInt8)] ++ r6) : Nat) : Int) > 9223372036854775807 then False else
              K (ByteArray.mk #[g] ++ (r2 ++ ByteArray.mk #[(58 : UInt8)] ++ r4) ++ (ByteArray.mk #[(58 : UInt8)] ++ r6)))))
          else K (ByteArray.mk #[g] ++ (r2 ++ ByteArray.mk #[(58 : UInt8)] ++ r4)))))))) := by
    intro g a ha0 ha1 hk
    have e1 : w64 (Int.tdiv a 3600) = a / 3600 := by rw [Int.tdiv_eq_ediv_of_nonneg ha0, w64_in (by omega) (by omega)]
    have e2 : Int.tmod (w64 (Int.tdiv a 60)) 60 = a / 60 % 60 := by rw [Int.tdiv_eq_ediv_of_nonneg ha0, w64_in (by omega) (by omega), Int.tmod_eq_emod_of_nonneg (by omega)]
    have e3 : Int.tmod a 60 = a % 60 := Int.tmod_eq_emod_of_nonneg ha0
    rw [e1, e2, e3]
    have l1 := pairP_len (a / 3600)
    have l2 := pairP_len (a / 60 % 60)
    have l3 := pairP_len (a % 60)
    refine sLPair _ (by omega) (by omega) ?_
    have s1 : S (pairP (a / 3600)) ++ ByteArray.mk #[(58 : UInt8)] = S (pairP (a / 3600) ++ [58]) := S_append _ [58]
    rw [S_size, if_neg (by omega)]
    refine sLPair _ (by omega) (by omega) ?_
    rw [s1, S_append, S_size, S_size, S_size, if_neg (by simp; omega), if_neg (by simp; omega)]
    have s2 : ByteArray.mk #[g] ++ S (pairP (a / 3600) ++ [58] ++ pairP (a / 60 % 60)) = S ([g] ++ (pairP (a / 3600) ++ [58] ++ pairP (a / 60 % 60))) := S_append [g] _
    rw [s2]
    by_cases hz : a % 60 ≠ 0
    · rw [if_pos hz] at hk
      rw [if_pos (by simpa using hz)]
      refine sLPair _ (by omega) (by omega) ?_
      have s3 : ByteArray.mk #[(58 : UInt8)] ++ S (pairP (a % 60)) = S ([58] ++ pairP (a % 60)) := S_append [58] _
      rw [s3, S_append, S_size, S_size, S_size, if_neg (by omega), if_neg (by simp; omega)]
      simpa using hk
    · rw [if_neg hz] at hk
      rw [if_neg (by simpa using hz)]
      simpa using hk
  unfold distB at h
  by_cases e : off < 0
  · rw [if_pos (decide_eq_true e)]
    have e1 : w64 (0 - off) = -off := by rw [w64_in (by omega) (by omega)]; omega
    rw [e1]
    rw [if_pos e, if_pos e] at h
    exact main 45 (-off) (by omega) (by omega) h
  · rw [if_neg (dneg e)]
    rw [if_neg e, if_neg e] at h
    exact main 43 off (by omega) (by omega) h
theorem dayB_eq (n : Int) : dayB n = dayL n := rfl
theorem dayL_len (n : Int) : (dayL n).length = 10 := rfl
theorem sLText (c : Cv) (hl : c.ab.length ≤ 100000) {K} (h : K (S (ctextL c).1) (ctextL c).2) : Xlocal_Text (tupC c) K := by
  unfold Xlocal_Text Ylocal_Text
  have bad : okC c = false → K (S []) false := fun e => by
    unfold ctextL at h
    rw [e, if_neg (by simp)] at h; exact h
  have hok : okC c = (decide (-719162 ≤ c.d ∧ c.d ≤ 2932896) && decide (0 ≤ c.h ∧ c.h ≤ 23) && decide (0 ≤ c.m ∧ c.m ≤ 59) && decide (0 ≤ c.s ∧ c.s ≤ 60) && decide (-89999 ≤ c.off ∧ c.off ≤ 93599) && abbrL c.ab) := rfl
  dsimp only [tupC]
  refine sStDay _ ?_
  by_cases h1 : -719162 ≤ c.d ∧ c.d ≤ 2932896
  case neg =>
    have hb := bad (by rw [hok, decide_eq_false h1]; rfl)
    rw [if_neg h1]
    refine sLWithin c.h 23 ?_
    by_cases q2 : 0 ≤ c.h ∧ c.h ≤ 23
    · rw [if_pos (decide_eq_true q2)]
      refine sLWithin c.m 59 ?_
      by_cases q3 : 0 ≤ c.m ∧ c.m ≤ 59
      · rw [if_pos (decide_eq_true q3)]
        refine sLWithin c.s 60 ?_
        rw [if_pos (by rfl)]; exact hb
      · rw [if_neg (dneg q3), if_pos (by rfl)]; exact hb
    · rw [if_neg (dneg q2), if_pos (by rfl)]; exact hb
  rw [if_pos h1]
  rw [decide_eq_true h1, Bool.true_and] at hok
  refine sLWithin c.h 23 ?_
  by_cases h2 : 0 ≤ c.h ∧ c.h ≤ 23
  case neg =>
    have hb := bad (by rw [hok, decide_eq_false h2]; rfl)
    rw [if_neg (dneg h2), if_neg (by simp)]; exact hb
  rw [if_pos (decide_eq_true h2)]
  rw [decide_eq_true h2, Bool.true_and] at hok
  refine sLWithin c.m 59 ?_
  by_cases h3 : 0 ≤ c.m ∧ c.m ≤ 59
  case neg =>
    have hb := bad (by rw [hok, decide_eq_false h3]; rfl)
    rw [if_neg (dneg h3), if_neg (by simp)]; exact hb
  rw [if_pos (decide_eq_true h3)]
  rw [decide_eq_true h3, Bool.true_and] at hok
  refine sLWithin c.s 60 ?_
  rw [if_neg (by simp)]
  by_cases h4 : 0 ≤ c.s ∧ c.s ≤ 60
  case neg =>
    have hb := bad (by rw [hok, decide_eq_false h4]; rfl)
    rw [if_pos (by rw [decide_eq_false h4]; rfl)]; exact hb
  rw [if_neg (by rw [decide_eq_true h4]; simp)]
  rw [decide_eq_true h4, Bool.true_and] at hok
  by_cases h5 : c.off < -89999
  · have hb := bad (by rw [hok, decide_eq_false (by omega)]; rfl)
    exact ifT (decide_eq_true h5) hb
  refine ifF (dneg h5) ?_
  by_cases h6 : c.off > 93599
  · have hb := bad (by rw [hok, decide_eq_false (by omega)]; rfl)
    exact ifT (decide_eq_true h6) hb
  refine ifF (dneg h6) ?_
  rw [decide_eq_true (by omega), Bool.true_and] at hok
  refine sabbr _ ?_
  cases h7 : abbrL c.ab
  · have hb := bad (by rw [hok, h7])
    rw [if_pos (by rfl)]; exact hb
  rw [if_neg (by simp)]
  unfold ctextL at h
  rw [hok, h7, if_pos rfl] at h
  clear bad
  have l0 := dayL_len c.d
  have l1 := pairP_len c.h
  have l2 := pairP_len c.m
  have l3 := pairP_len c.s
  have l4 := distB_len c.off
  rw [dayB_eq, S_size, if_neg (by omega)]
  refine sLPair c.h (by omega) (by omega) ?_
  have s1 : S (dayL c.d) ++ ByteArray.mk #[(84 : UInt8)] = S (dayL c.d ++ [84]) := S_append _ [84]
  rw [s1, S_append, S_size, S_size, if_neg (by simp; omega)]
  simp only [lt]
  generalize hA : dayL c.d ++ [84] ++ pairP c.h = A
  have hAl : A.length ≤ 60 := by rw [← hA]; simp; omega
  rw [S_size, if_neg (by omega)]
  refine sLPair c.m (by omega) (by omega) ?_
  have s2 : S A ++ ByteArray.mk #[(58 : UInt8)] = S (A ++ [58]) := S_append _ [58]
  rw [s2, S_append, S_size, S_size, if_neg (by simp; omega)]
  generalize hB : A ++ [58] ++ pairP c.m = B
  have hBl : B.length ≤ 110 := by rw [← hB]; simp; omega
  rw [S_size, if_neg (by omega)]
  refine sLPair c.s (by omega) (by omega) ?_
  have s3 : S B ++ ByteArray.mk #[(58 : UInt8)] = S (B ++ [58]) := S_append _ [58]
  rw [s3, S_append, S_size, S_size, if_neg (by simp; omega)]
  generalize hC : B ++ [58] ++ pairP c.s = C
  have hCl : C.length ≤ 160 := by rw [← hC]; simp; omega
  refine sLDist c.off (by omega) (by omega) ?_
  have s4 : S (C ++ distB c.off) ++ ByteArray.mk #[(32 : UInt8)] = S (C ++ distB c.off ++ [32]) := S_append _ [32]
  rw [S_append, s4]
  refine ifF (by rw [S_size, S_size]; omega) (ifF (by rw [S_size]; simp; omega) (ifF (by rw [S_size, S_size]; simp; omega) ?_))
  rw [S_append]
  rw [← hC, ← hB, ← hA]
  unfold ctextB at h
  simpa using h
/-- No run of more than four noughts; no great signs. -/
def runB : List UInt8 → Nat → Bool
  | [], k => true
  | q :: r, k => if q = 48 then decide (k < 4) && runB r (k + 1) else decide (q.toNat < 128) && runB r 0
theorem wi32_u8 (c : UInt8) : wi32 (c.toNat : Int) = (c.toNat : Int) := (wi32_in _).2 (by have := c.toNat_lt; omega)
theorem sLRead (l sh : List UInt8) (hl : l.length ≤ 100000) (hsl : sh.length ≤ 100) (hs : runB sh 0 = true) {K : Bool → List V → Bool → Bool → Prop}
    (h : ∀ o f, K (readG l sh 0 false []).1 (IV (readG l sh 0 false []).2) o f) : Xlocal_read (S l) (S sh) K := by
  unfold Xlocal_read Ylocal_read
  refine lp_ind (fun x => l.length - x.2.1.2) (fun x => ∃ (pos : Nat) (n : Int) (had : Bool) (acc : List Int) (k : Nat), pos ≤ l.length ∧ pos ≤ sh.length ∧ acc.length ≤ pos ∧ runB (sh.drop pos) k = true ∧ k ≤ 4 ∧ 0 ≤ n ∧ n < 10 ^ k ∧
    readG l sh 0 false [] = readG (l.drop pos) (sh.drop pos) n had acc ∧ x = ((S l, S sh, (), false, n, had, (), ()), (S l, pos), IV acc, ())) ?_ ⟨0, 0, false, [], 0, by omega, by omega, by simp, by rw [List.drop_zero]; exact hs, by omega, by omega, by decide, rfl, rfl⟩
  rintro x ⟨pos, n, had, acc, k, hp1, hp2, hac, hrun, hk4, hn0, hn1, hres, rfl⟩ kk hkk
  have hp10 : (10 : Int) ^ k ≤ 10000 := by
    rcases (show k = 0 ∨ k = 1 ∨ k = 2 ∨ k = 3 ∨ k = 4 by omega) with rfl | rfl | rfl | rfl | rfl <;> decide
  rw [hres] at h
  unfold Llocal_read_0
  simp only [S_size, IV_len]
  by_cases e : pos < l.length
  · rw [if_pos e]
    by_cases e1 : pos = sh.length
    · rw [if_pos (decide_eq_true (by omega))]
      rw [List.drop_eq_getElem_cons e, List.drop_eq_nil_of_le (show sh.length ≤ pos by omega), readG] at h
      exact h true true
    have hb : 0 ≤ (pos : Int) ∧ (pos : Int) < (sh.length : Int) := by omega
    rw [if_neg (dneg (by omega)), if_pos hb]
    have e2 : pos < sh.length := by omega
    have hq : Eng.bAt (S sh) (Int.toNat (pos : Int)) = ((sh[pos]).toNat : Int) := by
      rw [bAt_S, Int.toNat_natCast, List.getD, List.getElem?_eq_getElem e2, Option.getD_some]
    rw [hq, wi32_u8]
    rw [List.drop_eq_getElem_cons e2, runB] at hrun
    rw [List.drop_eq_getElem_cons e, List.drop_eq_getElem_cons e2, readG] at h hres
    generalize hqq : sh[pos] = q at *
    have hro : ∀ m : Nat, m ≤ 100000 → roomOk m 8 = true := fun m hm => by unfold roomOk; simp only [decide_eq_true_eq]; omega
    by_cases c48 : q = 48
    · rw [if_pos c48] at hrun
      simp only [Bool.and_eq_true, decide_eq_true_eq] at hrun
      rw [if_neg (by simp [c48])] at h hres
      have b48 : ((q.toNat : Int) == 48) = true := by rw [c48]; rfl
      have n48 : ¬ ((q.toNat : Int) != 48) = true := by rw [c48]; decide
      rw [if_neg n48, if_pos hb, if_pos b48]
      by_cases hlo : (l[pos]).toNat < 128
      · simp only [decode_lo l pos e hlo]
        by_cases d1 : (((l[pos]).toNat : Nat) : Int) < 48
        · rw [if_pos (decide_eq_true d1)]
          rw [if_neg (by rw [isDig_iff]; omega)] at h
          exact h true true
        rw [if_neg (dneg d1)]
        by_cases d2 : (((l[pos]).toNat : Nat) : Int) > 57
        · rw [if_pos (decide_eq_true d2)]
          rw [if_neg (by rw [isDig_iff]; omega)] at h
          exact h true true
        rw [if_neg (dneg d2), if_pos hb, if_neg n48]
        have hd : isDig l[pos] = true := (isDig_iff _).2 (by omega)
        rw [if_pos hd] at hres
        have e4 : wi32 ((((l[pos]).toNat : Nat) : Int) - 48) = ((l[pos]).toNat : Int) - 48 := (wi32_in _).2 (by omega)
        simp only [lt]
        rw [e4, w64_in (n := ((l[pos]).toNat : Int) - 48) (by omega) (by omega), w64_in (n := 10 * n) (by omega) (by omega), w64_in (by omega) (by omega)]
        refine hkk _ ⟨pos + 1, 10 * n + (((l[pos]).toNat : Int) - 48), true, acc, k + 1, e, e2, by omega, hrun.2, by omega, by omega, ?_, hres, rfl⟩ (by dsimp only; omega)
        rw [Int.pow_succ]; omega
      · obtain ⟨g1, g2⟩ := decode_hi l pos e (by omega)
        rw [if_neg (dneg (by omega)), if_pos (decide_eq_true (by omega))]
        rw [if_neg (by rw [isDig_iff]; omega)] at h
        exact h true true
    · rw [if_neg c48] at hrun
      simp only [Bool.and_eq_true, decide_eq_true_eq] at hrun
      rw [if_pos c48] at h hres
      have n48 : ((q.toNat : Int) != 48) = true := by
        rw [bne_iff_ne]; intro e
        exact c48 (u8_eq (by have : (48 : UInt8).toNat = 48 := rfl; omega))
      have b48 : ¬ ((q.toNat : Int) == 48) = true := by
        rw [beq_iff_eq]; intro e
        exact c48 (u8_eq (by have : (48 : UInt8).toNat = 48 := rfl; omega))
      rw [if_pos n48, if_pos hb]
      by_cases hlo : (l[pos]).toNat < 128
      · simp only [decode_lo l pos e hlo]
        by_cases d1 : l[pos] = q
        · have d2 : ¬ (((((l[pos]).toNat : Nat) : Int) != (q.toNat : Int)) = true) := by rw [d1]; simp
          rw [if_neg d2, if_pos hb, if_neg b48, if_pos hb, if_pos n48, if_pos (hro _ (by simp; omega))]
          rw [if_neg (by simpa using d1)] at hres
          refine hkk _ ⟨pos + 1, 0, false, acc ++ [n], 0, e, e2, by simp; omega, hrun.2, by omega, by omega, by decide, hres, by simp [IV]⟩ (by dsimp only; omega)
        · have d2 : (((((l[pos]).toNat : Nat) : Int) != (q.toNat : Int)) = true) := by
            rw [bne_iff_ne]; intro e
            exact d1 (u8_eq (by omega))
          rw [if_pos d2, if_pos d2]
          rw [if_pos (by simpa using d1)] at h
          exact h true true
      · obtain ⟨g1, g2⟩ := decode_hi l pos e (by omega)
        have d2 : ((((Utf8.decode (S l) pos).1 : Nat) : Int) != (q.toNat : Int)) = true := by
          rw [bne_iff_ne]; omega
        rw [if_pos d2, if_pos d2]
        rw [if_pos (by simp only [ne_eq]; intro e; rw [e] at hlo; omega)] at h
        exact h true true
  · have hpl : pos = l.length := by omega
    subst hpl
    have hro : roomOk (acc.length + [V.c (Value.int .i64 n)].length) 8 = true := by unfold roomOk; simp only [decide_eq_true_eq, List.length_singleton]; omega
    rw [if_neg e, if_pos hro]
    rw [List.drop_length, readG] at h
    have hap : IV acc ++ [V.c (Value.int .i64 n)] = IV (acc ++ [n]) := by simp [IV]
    rw [hap]
    have hd : (sh.drop l.length).isEmpty = ((l.length : Int) == (sh.length : Int)) := by
      rw [Bool.eq_iff_iff, List.isEmpty_iff, beq_iff_eq, List.drop_eq_nil_iff]; omega
    rw [hd] at h
    cases had
    · rw [if_neg (by simp)]; exact h true false
    · rw [if_pos rfl]; exact h true false
end Go.Proofs.YtodmkipcgfodkaaGreatDoor
end
section
set_option linter.unusedVariables false
set_option linter.unusedSimpArgs false
namespace Go.Proofs.YtodmkipcgfodkaaGreatDoor
open Go Go.Proofs.YtodmkipcgfodkaaGreatDoor.Eng Go.Proofs.YtodmkipcgfodkaaGreatDoor.Pl
set_option linter.unusedVariables false
set_option linter.unusedSimpArgs false
set_option maxRecDepth 100000
set_option maxHeartbeats 4000000
def partO (ns : List Int) (j : Nat) : Int := if j = 0 then 0 else if j = 1 then ns.getD 0 0 * 3600 else if j = 2 then ns.getD 0 0 * 3600 + ns.getD 1 0 * 60 else ns.getD 0 0 * 3600 + ns.getD 1 0 * 60 + ns.getD 2 0 * 1
theorem awayTail (g : UInt8) (r sh : List UInt8) (hr : r.length ≤ 1000) (hg : g = 43 ∨ g = 45) (hsh : sh = shD ∨ sh = shE) {K : Int → Bool → Prop}
    (h : if (readG r sh 0 false []).1 = false then K 0 false else K (sumO (g == 45) (readG r sh 0 false []).2) (distB (sumO (g == 45) (readG r sh 0 false []).2) == g :: r)) :
    Xlocal_read (S r) (S sh) (fun r1 r2 r3 r4 => (if (!r1) = true then K 0 false else lp (Llocal_away_0 Xlocal_distance K) ((S (g :: r), 0, r1, (), (r2.length : Int), 0, ()), (r2, r3, r4), ()))) := by
  refine sLRead r sh (by omega) (by rcases hsh with rfl | rfl <;> decide) (by rcases hsh with rfl | rfl <;> decide) fun o f => ?_
  cases hok : (readG r sh 0 false []).1
  · rw [hok, if_pos rfl] at h
    rw [if_pos (by rfl)]; exact h
  rw [hok, if_neg (by simp)] at h
  rw [if_neg (by simp)]
  have hns : ∃ ns : List Int, (readG r sh 0 false []).2 = ns ∧ ns.length ≤ 3 ∧ (∀ n ∈ ns, 0 ≤ n ∧ n ≤ 99) ∧ ∀ b, sumO b ns = if b = true then -(partO ns ns.length) else partO ns ns.length := by
    rcases hsh with rfl | rfl
    · obtain ⟨a, b, e, h1, h2⟩ := read_D hok
      refine ⟨_, e, by simp, ?_, fun q => ?_⟩
      · intro n hn
        simp only [List.mem_cons, List.not_mem_nil, or_false] at hn
        rcases hn with rfl | rfl <;> assumption
      · simp only [sumO, partO, List.length_cons, List.length_nil, List.getD_cons_zero, List.getD_cons_succ]
        cases q <;> simp <;> omega
    · obtain ⟨a, b, c, e, h1, h2, h3⟩ := read_E hok
      refine ⟨_, e, by simp, ?_, fun q => ?_⟩
      · intro n hn
        simp only [List.mem_cons, List.not_mem_nil, or_false] at hn
        rcases hn with rfl | rfl | rfl <;> assumption
      · simp only [sumO, partO, List.length_cons, List.length_nil, List.getD_cons_zero, List.getD_cons_succ]
        cases q <;> simp <;> omega
  obtain ⟨ns, hn, hl3, hb, hsum⟩ := hns
  rw [hn] at h ⊢
  rw [hsum] at h
  have hgd : ∀ i, 0 ≤ ns.getD i 0 ∧ ns.getD i 0 ≤ 99 := fun i => by
    by_cases e : i < ns.length
    · rw [List.getD, List.getElem?_eq_getElem e, Option.getD_some]; exact hb _ (List.getElem_mem e)
    · rw [List.getD, List.getElem?_eq_none (by omega), Option.getD_none]; omega
  have hpb : ∀ j, 0 ≤ partO ns j ∧ partO ns j ≤ 400000 := fun j => by
    have h0 := hgd 0
    have h1 := hgd 1
    have h2 := hgd 2
    unfold partO
    split
    · omega
    · split
      · omega
      · split <;> omega
  rw [IV_len]
  refine lp_at (fun j => ((S (g :: r), partO ns j, true, (), (ns.length : Int), (j : Int), ()), (IV ns, o, f), ())) ns.length (by simp [partO]) fun j hj k hk => ?_
  unfold Llocal_away_0
  simp only [IV_len, Int.toNat_natCast, S_size]
  by_cases e : j < ns.length
  · rw [if_pos (decide_eq_true (by omega)), if_pos (by omega)]
    refine asIV e ?_
    rw [if_pos (by omega)]
    have hj3 : j = 0 ∨ j = 1 ∨ j = 2 := by omega
    have hg0 : ns[j] = ns.getD j 0 := by rw [List.getD, List.getElem?_eq_getElem e, Option.getD_some]
    have step : ∀ w : Int, (w = 3600 ∨ w = 60 ∨ w = 1) → partO ns j + ns[j] * w = partO ns (j + 1) → (lt (w64 (partO ns j + w64 (ns[j] * w))) fun v9 => k ((S (g :: r), v9, true, (), (ns.length : Int), w64 ((j : Int) + 1), ()), (IV ns, o, f), ())) := fun w hw he => by
      have hbj := hb _ (List.getElem_mem e)
      have hp := hpb j
      have h1 : 0 ≤ ns[j] * w ∧ ns[j] * w ≤ 400000 := by
        rcases hw with rfl | rfl | rfl <;> omega
      simp only [lt]
      rw [w64_in (n := ns[j] * w) (by omega) (by omega), w64_in (n := partO ns j + ns[j] * w) (by omega) (by omega), he, w64_in (n := (j : Int) + 1) (by omega) (by omega)]
      have := hk e
      exact this
    rcases hj3 with rfl | rfl | rfl
    · exact step 3600 (by simp) (by rw [hg0]; simp [partO])
    · exact step 60 (by simp) (by rw [hg0]; simp [partO])
    · exact step 1 (by simp) (by rw [hg0]; simp [partO])
  · have ej : j = ns.length := by omega
    subst ej
    have hp := hpb ns.length
    rw [if_neg (dneg (by omega)), if_pos (by simp), bAt0]
    rcases hg with rfl | rfl
    · rw [if_neg (by decide)]
      rw [if_neg (by decide)] at h
      refine sLDist _ (by omega) (by omega) ?_
      rw [kS_eq]; exact h
    · rw [if_pos (by decide)]
      rw [if_pos (by decide)] at h
      have e1 : w64 (0 - partO ns ns.length) = -(partO ns ns.length) := by rw [w64_in (by omega) (by omega)]; omega
      rw [e1]
      refine sLDist _ (by omega) (by omega) ?_
      rw [kS_eq]; exact h
theorem sLAway (l : List UInt8) (hl : l.length ≤ 1000) {K : Int → Bool → Prop} (h : K (awayL l).1 (awayL l).2) : Xlocal_away (S l) K := by
  unfold Xlocal_away Ylocal_away
  cases l with
  | nil => rw [kS_nil]; exact ifT rfl h
  | cons g r =>
    have hr : r.length ≤ 1000 := by simp at hl; omega
    have hgp : 0 < (g :: r).length := by simp
    rw [kS_nil, if_neg (by simp)]
    simp only [S_size, bAt0]
    have hb0 : (0 : Int) ≤ 0 ∧ (0 : Int) < ((g :: r).length : Int) := ⟨Int.le_refl _, by omega⟩
    rw [if_pos hb0]
    have ne43 : ∀ c : UInt8, c ≠ 43 → ((c.toNat : Int) != 43) = true := fun c hc => by
      rw [bne_iff_ne]; intro e
      exact hc (u8_eq (by have : (43 : UInt8).toNat = 43 := rfl; omega))
    have ne45 : ∀ c : UInt8, c ≠ 45 → ((c.toNat : Int) != 45) = true := fun c hc => by
      rw [bne_iff_ne]; intro e
      exact hc (u8_eq (by have : (45 : UInt8).toNat = 45 := rfl; omega))
    have hE : ByteArray.mk #[(48 : UInt8), (48 : UInt8), (58 : UInt8), (48 : UInt8), (48 : UInt8)] ++ ByteArray.mk #[(58 : UInt8), (48 : UInt8), (48 : UInt8)] = S shE := S_append shD [58, 48, 48]
    have hx : ByteArray.extract (S (g :: r)) 1 (Int.toNat ((g :: r).length : Int)) = S r := by
      rw [S_extract, Int.toNat_natCast]; simp
    have hb1 : 0 ≤ ((g :: r).length : Int) ∧ ((g :: r).length : Int) ≤ ((g :: r).length : Int) := by omega
    have hb2 : (0 : Int) ≤ 1 ∧ 1 ≤ ((g :: r).length : Int) := ⟨by decide, by omega⟩
    rw [hE, hx]
    have hun : ¬ (g ≠ 43 ∧ g ≠ 45) → awayL (g :: r) = if (readG r (if 6 < (g :: r).length then shE else shD) 0 false []).1 = false then (0, false) else
      (sumO (g == 45) (readG r (if 6 < (g :: r).length then shE else shD) 0 false []).2, distB (sumO (g == 45) (readG r (if 6 < (g :: r).length then shE else shD) 0 false []).2) == g :: r) := fun hn => by
      unfold awayL
      simp only
      rw [if_neg hn]
    have go : (g = 43 ∨ g = 45) → (if decide (((g :: r).length : Int) > 6) = true then
        (if 0 ≤ ((g :: r).length : Int) ∧ ((g :: r).length : Int) ≤ ((g :: r).length : Int) then (if (0 : Int) ≤ 1 ∧ 1 ≤ ((g :: r).length : Int) then
          Xlocal_read (S r) (S shE) (fun r1 r2 r3 r4 => (if (!r1) = true then K 0 false else lp (Llocal_away_0 Xlocal_distance K) ((S (g :: r), 0, r1, (), (r2.length : Int), 0, ()), (r2, r3, r4), ()))) else False) else False)
        else (if 0 ≤ ((g :: r).length : Int) ∧ ((g :: r).length : Int) ≤ ((g :: r).length : Int) then (if (0 : Int) ≤ 1 ∧ 1 ≤ ((g :: r).length : Int) then
          Xlocal_read (S r) (S shD) (fun r1 r2 r3 r4 => (if (!r1) = true then K 0 false else lp (Llocal_away_0 Xlocal_distance K) ((S (g :: r), 0, r1, (), (r2.length : Int), 0, ()), (r2, r3, r4), ()))) else False) else False)) := fun hg => by
      rw [hun (by rcases hg with rfl | rfl <;> decide)] at h
      by_cases h6 : 6 < (g :: r).length
      · rw [if_pos h6] at h
        rw [if_pos (decide_eq_true (by omega)), if_pos hb1, if_pos hb2]
        refine awayTail g r shE hr hg (.inr rfl) ?_
        split at h
        · rename_i e; rw [if_pos e]; exact h
        · rename_i e; rw [if_neg e]; exact h
      · rw [if_neg h6] at h
        rw [if_neg (dneg (by omega)), if_pos hb1, if_pos hb2]
        refine awayTail g r shD hr hg (.inl rfl) ?_
        split at h
        · rename_i e; rw [if_pos e]; exact h
        · rename_i e; rw [if_neg e]; exact h
    by_cases c43 : g = 43
    · have := go (.inl c43)
      rw [if_neg (by rw [c43]; decide)]
      exact this
    rw [if_pos (ne43 g c43), if_pos hb0]
    by_cases c45 : g = 45
    · have := go (.inr c45)
      rw [if_neg (by rw [c45]; decide)]
      exact this
    rw [if_pos (ne45 g c45)]
    have e : awayL (g :: r) = (0, false) := by unfold awayL; simp only; rw [if_pos ⟨c43, c45⟩]
    rw [e] at h; exact h
theorem sLParse (l : List UInt8) (hl : l.length ≤ 1000) {K : _ → Bool → Prop} (h : K (tupC (cparseL l).1) (cparseL l).2) : Xlocal_Parse (S l) K := by
  unfold Xlocal_Parse Ylocal_Parse
  refine sCut l 32 (by omega) ?_
  unfold cparseL at h
  have hb : (splitL 32 l).1.length ≤ l.length ∧ (splitL 32 l).2.1.length ≤ l.length := by
    unfold splitL
    split <;> simp <;> omega
  generalize (splitL 32 l).1 = b at *
  generalize (splitL 32 l).2.1 = nm at *
  generalize (splitL 32 l).2.2 = fl at *
  unfold cparseB at h
  simp only [S_size]
  by_cases h0 : b.length < 19
  · rw [if_pos h0] at h
    rw [if_pos (decide_eq_true (by omega))]; exact h
  rw [if_neg h0] at h
  rw [if_neg (dneg (by omega)), if_pos (by omega)]
  have hx : ByteArray.extract (S b) 0 19 = S (b.take 19) := by rw [S_extract]; rfl
  have hy : ByteArray.extract (S b) 19 (Int.toNat (b.length : Int)) = S (b.drop 19) := by
    rw [S_extract, Int.toNat_natCast, List.take_of_length_le (by simp)]
  rw [hx, hy]
  show Xlocal_read (S (b.take 19)) (S shC) _
  refine sLRead _ shC (by simp; omega) (by decide) (by decide) fun o f => ?_
  rw [if_pos (by omega), if_pos (by omega)]
  refine sLAway _ (by simp; omega) ?_
  cases h1 : (readG (b.take 19) shC 0 false []).1
  · rw [if_pos (.inl h1)] at h
    rw [if_pos (by rfl)]; exact h
  rw [if_neg (by simp)]
  cases h2 : (awayL (b.drop 19)).2
  · rw [if_pos (.inr h2)] at h
    rw [if_pos (by rfl)]; exact h
  rw [if_neg (by simp)]
  rw [if_neg (by rw [h1, h2]; simp)] at h
  obtain ⟨d1, d2, d3, d4', d5, d6, e0, g1, g2, g3, g4, g5, g6, e1⟩ := read_clock h1
  rw [e1] at h ⊢
  simp only at h
  obtain ⟨w1, w2⟩ := d4_val g1.1 g1.2
  obtain ⟨w3, w4⟩ := dd_val g2.1 g2.2
  obtain ⟨w5, w6⟩ := dd_val g3.1 g3.2
  generalize (valL d1 : Int) = y at *
  generalize hm : (valL d2 : Int) = m at *
  generalize hd : (valL d3 : Int) = d at *
  generalize (valL d4' : Int) = hh at *
  generalize (valL d5 : Int) = mi at *
  generalize (valL d6 : Int) = ss at *
  rw [IV_len]
  simp only [List.length_cons, List.length_nil]
  rw [if_pos (by omega)]
  refine asIV (show 0 < [y, m, d, hh, mi, ss].length by simp) ?_
  rw [if_pos (by omega)]
  refine asIV (show 1 < [y, m, d, hh, mi, ss].length by simp) ?_
  rw [if_pos (by omega)]
  refine asIV (show 2 < [y, m, d, hh, mi, ss].length by simp) ?_
  refine snum _ _ _ (by simp only [List.getElem_cons_succ, List.getElem_cons_zero]; omega) (by simp only [List.getElem_cons_succ, List.getElem_cons_zero]; omega) ?_
  simp only [List.getElem_cons_succ, List.getElem_cons_zero]
  rw [if_pos (by omega)]
  refine asIV (show 3 < [y, m, d, hh, mi, ss].length by simp) ?_
  rw [if_pos (by omega)]
  refine asIV (show 4 < [y, m, d, hh, mi, ss].length by simp) ?_
  rw [if_pos (by omega)]
  refine asIV (show 5 < [y, m, d, hh, mi, ss].length by simp) ?_
  simp only [List.getElem_cons_succ, List.getElem_cons_zero]
  by_cases hok : okD y m d
  · rw [if_pos hok, decide_eq_true hok]
    refine sLText ⟨num y m d, hh, mi, ss, (awayL (b.drop 19)).1, false, nm⟩ (by simp only; omega) ?_
    rw [if_neg (by simp)]
    unfold ctextL
    by_cases hc : okC ⟨num y m d, hh, mi, ss, (awayL (b.drop 19)).1, false, nm⟩ = true
    · rw [if_pos hc, if_neg (by simp)]
      rw [if_pos ⟨hok, hc⟩] at h
      exact h
    · rw [if_neg hc, if_pos (by rfl)]
      rw [if_neg fun q => hc q.2] at h
      exact h
  · rw [if_neg hok, decide_eq_false hok]
    refine sLText ⟨0, hh, mi, ss, (awayL (b.drop 19)).1, false, nm⟩ (by simp only; omega) ?_
    rw [if_pos (by rfl)]
    rw [if_neg fun q => hok q.1] at h
    exact h
end Go.Proofs.YtodmkipcgfodkaaGreatDoor
end
section
set_option linter.unusedVariables false
set_option linter.unusedSimpArgs false
namespace Go.Proofs.YtodmkipcgfodkaaGreatDoor
open Go Go.Proofs.YtodmkipcgfodkaaGreatDoor.Eng Go.Proofs.YtodmkipcgfodkaaGreatDoor.Pl
set_option linter.unusedVariables false
set_option linter.unusedSimpArgs false
set_option maxRecDepth 100000
set_option maxHeartbeats 4000000
def knownZ (z : Zn) : Bool := zoneRight z && knownR z.lp
theorem sLKnown (z : Zn) (hz : ZI z) {K : Bool → Prop} (h : K (knownZ z)) : Xlocal_Known (tupZ z) K := by
  unfold Xlocal_Known Ylocal_Known
  unfold knownZ at h
  refine sRight z hz ?_
  cases hr : zoneRight z
  · rw [if_neg (by simp)]
    rw [hr] at h; exact h
  · rw [if_pos rfl]
    rw [hr, Bool.true_and] at h
    have hl := hz.lp
    exact sScKnown z.lp hz.ri (by omega) h
theorem off_of {z : Zn} (hr : zoneRight z = true) (a : Int) : -89999 ≤ (lookZ z a).1 ∧ (lookZ z a).1 ≤ 93599 := right_off hr a
def civQ (z : Zn) (t : Int) : Int := (fromR z.lp t).1 + (lookZ z (t + 63072000)).1
def civC (z : Zn) (t : Int) : Cv := ⟨civQ z t / 86400, civQ z t % 86400 / 3600, civQ z t % 86400 / 60 % 60, civQ z t % 86400 % 60 + (if (utcR z.lp t).2.1 = 86400 then 1 else 0), (lookZ z (t + 63072000)).1, (lookZ z (t + 63072000)).2.1, (lookZ z (t + 63072000)).2.2⟩
def civR (z : Zn) (t : Int) : Cv × Int :=
  if knownZ z = false then (cv0, 1) else if (utcR z.lp t).2.2 ≠ 0 then (cv0, (utcR z.lp t).2.2) else
  if -719162 ≤ civQ z t / 86400 ∧ civQ z t / 86400 ≤ 2932896 then (civC z t, 0) else (cv0, 9)
theorem knownZ_iff {z : Zn} (h : knownZ z = true) : zoneRight z = true ∧ knownR z.lp = true := by
  unfold knownZ at h; simpa using h
theorem from_val {l : List Rec} (hi : recI l) {t : Int} (h : (utcR l t).2.2 = 0) : fromR l t = (ofP (utcR l t).1 (utcR l t).2.1, 0) ∧ 730 * 86400 ≤ ofP (utcR l t).1 (utcR l t).2.1 ∧ ofP (utcR l t).1 (utcR l t).2.1 ≤ 253402300799 ∧ 0 ≤ t ∧ t ≤ 300000000000 := by
  obtain ⟨u1, u2, u3, u4, u5, tu⟩ := utc_bd hi h
  obtain ⟨_, h0, _⟩ := utcR_ok h
  have hb : strt (tabT l).1.ls (utcR l t).1 = (utcR l t).1 * 86400 + sumT (tabT l).1.ls (cntD (tabT l).1.ls (utcR l t).1) := rfl
  have := tu.sum (cntD (tabT l).1.ls (utcR l t).1)
  have := stepD_bd tu (utcR l t).1
  refine ⟨by unfold fromR; rw [if_pos h], ?_, ?_, h0, by omega⟩
  · unfold ofP; omega
  · unfold ofP; omega
theorem sCivil (z : Zn) (hz : ZI z) (t : Int) (ht : i64r t) {K : _ → Int → Prop} (h : K (tupC (civR z t).1) (civR z t).2) : Xlocal_Civil (tupZ z) t K := by
  unfold Xlocal_Civil Ylocal_Civil
  refine sLKnown z hz ?_
  unfold civR at h
  cases hk : knownZ z
  · rw [hk, if_pos rfl] at h
    rw [if_pos (by rfl)]; exact h
  rw [hk, if_neg (by simp)] at h
  rw [if_neg (by simp)]
  obtain ⟨hr, hkr⟩ := knownZ_iff hk
  have hl := hz.lp
  show Xscale_Utc (RV z.lp) t _
  refine sUtc z.lp hz.ri (by omega) t ht ?_
  by_cases hu : (utcR z.lp t).2.2 ≠ 0
  · rw [if_pos hu] at h
    rw [if_pos (by simpa using hu)]; exact h
  rw [if_neg hu] at h
  rw [if_neg (by simpa using hu)]
  have hu : (utcR z.lp t).2.2 = 0 := by omega
  obtain ⟨f1, f2, f3, f4, f5⟩ := from_val hz.ri hu
  show Xposix_From (RV z.lp) t _
  refine sFrom z.lp hz.ri (by omega) t ht ?_
  rw [w64_in (n := t + 63072000) (by omega) (by omega)]
  refine zLookup z ⟨hz, hr⟩ _ ?_
  have ho := off_of hr (t + 63072000)
  have hq : (fromR z.lp t).1 + (tupT (lookZ z (t + 63072000))).1 = civQ z t := rfl
  have hqb : -719162 * 86400 ≤ civQ z t ∧ civQ z t ≤ 253402400000 := by
    unfold civQ; rw [f1]; simp only; omega
  rw [hq, w64_in (n := civQ z t) (by omega) (by omega)]
  refine sPDay _ (by unfold i64r; omega) ?_
  refine sday _ ?_
  by_cases hd : -719162 ≤ civQ z t / 86400 ∧ civQ z t / 86400 ≤ 2932896
  · rw [if_pos hd] at h ⊢
    rw [if_neg (by simp)]
    refine kStClock _ (by omega) (by omega) ?_
    unfold civC at h
    by_cases hs : (utcR z.lp t).2.1 = 86400
    · rw [if_pos hs] at h
      rw [if_pos (by simpa using hs), w64_in (by omega) (by omega)]; exact h
    · rw [if_neg hs, Int.add_zero] at h
      rw [if_neg (by simpa using hs)]; exact h
  · rw [if_neg hd] at h ⊢
    rw [if_pos (by rfl)]; exact h
theorem look_ab {z : Zn} (hz : ZI z) (hr : zoneRight z = true) (a : Int) : (lookZ z a).2.2.length ≤ 1000 := by
  unfold lookZ
  split
  · rename_i hf
    unfold zoneRight at hr
    simp only [Bool.and_eq_true] at hr
    have he := hr.2
    unfold endsOk at he
    have hne : z.ft.isEmpty = false := by cases hq : z.ft with | nil => exact absurd hq hf.1 | cons c r => rfl
    rw [hne, Bool.false_or, Bool.and_eq_true] at he
    have hok := parse_ok _ he.1
    have hab := fun (o : Int) (d : Bool) (l : List UInt8) (w : Bool) (h : kindR o d l w = true) => (abbr_len (kind_iff.1 h).1).2
    unfold Ft.look
    unfold Ft.ok at hok
    rw [Bool.and_eq_true] at hok
    split
    · rename_i hsum
      have hs : (Ft.parse z.ft).1.has = true := hsum.2.1.1
      rw [hs, if_pos rfl] at hok
      simp only [Bool.and_eq_true] at hok
      have := hab _ _ _ _ hok.2.1.1
      simp only; omega
    · have := hab _ _ _ _ hok.1
      simp only; omega
  · split
    · cases hq : z.ty with
      | nil => simp
      | cons t r =>
        have := hz.nm t (by rw [hq]; exact .head _)
        simp only [List.headD_cons]; omega
    · rename_i c hc
      by_cases e : c.2.toNat < z.ty.length
      · rw [List.getD, List.getElem?_eq_getElem e, Option.getD_some]
        have := hz.nm _ (List.getElem_mem e)
        omega
      · rw [List.getD, List.getElem?_eq_none (by omega), Option.getD_none]; simp
def showR (z : Zn) (t : Int) : List UInt8 × Int := if (civR z t).2 = 0 then ((ctextL (civR z t).1).1, 0) else ([], (civR z t).2)
theorem civ_ab {z : Zn} (hz : ZI z) (t : Int) : (civR z t).1.ab.length ≤ 1000 := by
  unfold civR
  cases hk : knownZ z
  · simp [cv0]
  · rw [if_neg (by simp)]
    split
    · simp [cv0]
    · split
      · exact look_ab hz (knownZ_iff hk).1 _
      · simp [cv0]
theorem sShow (z : Zn) (hz : ZI z) (t : Int) (ht : i64r t) {K : _ → Int → Prop} (h : K (S (showR z t).1) (showR z t).2) : Xlocal_Show (tupZ z) t K := by
  unfold Xlocal_Show Ylocal_Show
  refine sCivil z hz t ht ?_
  unfold showR at h
  have hab := civ_ab hz t
  by_cases e : (civR z t).2 = 0
  · rw [if_pos e] at h
    rw [if_pos (by simpa using e)]
    refine sLText _ (by omega) ?_
    rw [e]; exact h
  · rw [if_neg e] at h
    rw [if_neg (by simpa using e)]; exact h
def secC (c : Cv) : Int := c.d * 86400 + c.h * 3600 + c.m * 60 + c.s - c.off
def readR (z : Zn) (s : List UInt8) : Int × Int :=
  if knownZ z = false then (0, 1) else if (cparseL s).2 = false then (0, 2) else
  if showR z ((ptaiR z.lp (secC (cparseL s).1 - 1)).1 + 1) = (s, 0) then ((ptaiR z.lp (secC (cparseL s).1 - 1)).1 + 1, 0) else
  if showR z (ptaiR z.lp (secC (cparseL s).1)).1 = (s, 0) then ((ptaiR z.lp (secC (cparseL s).1)).1, 0) else (0, 11)
theorem tai_bd {l : List Rec} (hi : recI l) (d s : Int) : 0 - 63072400 ≤ (taiR l d s).1 ∧ (taiR l d s).1 ≤ 300000000000 := by
  unfold taiR
  split
  · simp
  · rename_i h0
    split
    · simp
    · split
      · simp
      · split
        · simp
        · have hk : knownR l = true ∧ 730 ≤ d ∧ d ≤ 2932896 := by
            unfold lenR at h0
            split at h0
            · simp at h0
            · split at h0
              · simp at h0
              · rename_i a b
                refine ⟨by simpa using a, by omega, by omega⟩
          obtain ⟨hr, ht⟩ := known_right hk.1
          obtain ⟨tu, _⟩ := tab_rec (recB_of hr fun c hc => (hi c hc).1.2) ht
          have hb : strt (tabT l).1.ls d = d * 86400 + sumT (tabT l).1.ls (cntD (tabT l).1.ls d) := rfl
          have := tu.sum (cntD (tabT l).1.ls d)
          simp only
          omega
theorem sLRd (z : Zn) (hz : ZI z) (s : List UInt8) (hs : s.length ≤ 1000) {K : Int → Int → Prop} (h : K (readR z s).1 (readR z s).2) : Xlocal_Read (tupZ z) (S s) K := by
  unfold Xlocal_Read Ylocal_Read
  refine sLKnown z hz ?_
  unfold readR at h
  cases hk : knownZ z
  · rw [hk, if_pos rfl] at h
    rw [if_pos (by rfl)]; exact h
  rw [hk, if_neg (by simp)] at h
  rw [if_neg (by simp)]
  refine sLParse s hs ?_
  cases hp : (cparseL s).2
  · rw [hp, if_pos rfl] at h
    rw [if_pos (by rfl)]; exact h
  rw [hp, if_neg (by simp)] at h
  rw [if_neg (by simp)]
  obtain ⟨o1, o2, o3, o4, o5, o6⟩ := okC_iff.1 (ctext_parse hp).1
  have hl := hz.lp
  generalize (cparseL s).1 = c at *
  dsimp only [tupC]
  have w1 : w64 (w64 (c.d * 86400) + w64 (c.h * 3600)) = c.d * 86400 + c.h * 3600 := by
    rw [w64_in (n := c.d * 86400) (by omega) (by omega), w64_in (n := c.h * 3600) (by omega) (by omega), w64_in (by omega) (by omega)]
  have w2 : w64 (c.d * 86400 + c.h * 3600 + w64 (c.m * 60)) = c.d * 86400 + c.h * 3600 + c.m * 60 := by
    rw [w64_in (n := c.m * 60) (by omega) (by omega), w64_in (by omega) (by omega)]
  have w3 : w64 (w64 (c.d * 86400 + c.h * 3600 + c.m * 60 + c.s) - c.off) = secC c := by
    rw [w64_in (n := c.d * 86400 + c.h * 3600 + c.m * 60 + c.s) (by omega) (by omega), w64_in (by omega) (by omega)]; rfl
  have hsb : -100000000000 ≤ secC c ∧ secC c ≤ 300000000000 := by unfold secC; omega
  simp only [lt]
  rw [w1, w2, w3, w64_in (n := secC c - 1) (by omega) (by omega)]
  refine sPTai z.lp hz.ri (by omega) _ (by unfold i64r; omega) ?_
  refine sPTai z.lp hz.ri (by omega) _ (by unfold i64r; omega) ?_
  have t1 := tai_bd hz.ri ((secC c - 1) / 86400) ((secC c - 1) % 86400)
  have t2 := tai_bd hz.ri (secC c / 86400) (secC c % 86400)
  unfold ptaiR at *
  generalize (taiR z.lp ((secC c - 1) / 86400) ((secC c - 1) % 86400)).1 = u at *
  generalize (taiR z.lp (secC c / 86400) (secC c % 86400)).1 = v at *
  rw [w64_in (n := u + 1) (by omega) (by omega)]
  have two : ∀ (x : Int) (hx : i64r x) (Q : Prop), (if showR z x = (s, 0) then K x 0 else Q) → Xlocal_Show (tupZ z) x (fun r16 r17 => (if (r17 == 0) = true then (if (ByteArray.toList r16 == ByteArray.toList (S s)) = true then K x 0 else Q) else Q)) := fun x hx Q hq => by
    refine sShow z hz x hx ?_
    rw [kS_eq]
    by_cases e : showR z x = (s, 0)
    · rw [if_pos e] at hq
      rw [e, if_pos (by simp), if_pos (by simp)]; exact hq
    · rw [if_neg e] at hq
      by_cases e1 : (showR z x).2 = 0
      · rw [if_pos (by simpa using e1)]
        rw [if_neg (by simp only [beq_iff_eq]; intro e2; exact e (Prod.ext e2 e1))]
        exact hq
      · rw [if_neg (by simpa using e1)]; exact hq
  generalize hst : (fun j : Nat => (((S s, (), 0, 0, (), 2, (j : Int), ()), tupZ z, [V.c (Value.int .i64 (u + 1)), V.c (Value.int .i64 v)], ()) : (ByteArray × Unit × Int × Int × Unit × Int × Int × Unit) × (List V × List V × List V × ByteArray × Int × Unit) × List V × Unit)) = st
  have s0 : ∀ k : _ → Prop, (if showR z (u + 1) = (s, 0) then K (u + 1) 0 else k (st 1)) → Llocal_Read_0 Xlocal_Show K k (st 0) := fun k hq => by
    subst hst
    unfold Llocal_Read_0
    simp only [List.length_cons, List.length_nil]
    refine ifT (by rfl) (ifT (by simp) ?_)
    exact two (u + 1) (by unfold i64r; omega) _ hq
  have s1 : ∀ k : _ → Prop, (if showR z v = (s, 0) then K v 0 else k (st 2)) → Llocal_Read_0 Xlocal_Show K k (st 1) := fun k hq => by
    subst hst
    unfold Llocal_Read_0
    simp only [List.length_cons, List.length_nil]
    refine ifT (by rfl) (ifT (by simp) ?_)
    exact two v (by unfold i64r; omega) _ hq
  have s2 : ∀ k : _ → Prop, K 0 11 → Llocal_Read_0 Xlocal_Show K k (st 2) := fun k hq => by
    subst hst
    unfold Llocal_Read_0
    simp only [List.length_cons, List.length_nil]
    exact ifF (by simp) hq
  have h0 : (((S s, (), 0, 0, (), ((List.length [V.c (Value.int .i64 (u + 1)), V.c (Value.int .i64 v)] : Nat) : Int), 0, ()), tupZ z, [V.c (Value.int .i64 (u + 1)), V.c (Value.int .i64 v)], ()) : (ByteArray × Unit × Int × Int × Unit × Int × Int × Unit) × (List V × List V × List V × ByteArray × Int × Unit) × List V × Unit) = st 0 := by subst hst; rfl
  by_cases e : showR z (u + 1) = (s, 0)
  · rw [if_pos e] at h
    exact lp_at st 0 h0 fun j hj k hkk => by
      have : j = 0 := by omega
      subst this
      exact s0 k (by rw [if_pos e]; exact h)
  rw [if_neg e] at h
  by_cases e2 : showR z v = (s, 0)
  · rw [if_pos e2] at h
    exact lp_at st 1 h0 fun j hj k hkk => by
      rcases (show j = 0 ∨ j = 1 by omega) with rfl | rfl
      · exact s0 k (by rw [if_neg e]; exact hkk (by decide))
      · exact s1 k (by rw [if_pos e2]; exact h)
  rw [if_neg e2] at h
  exact lp_at st 2 h0 fun j hj k hkk => by
    rcases (show j = 0 ∨ j = 1 ∨ j = 2 by omega) with rfl | rfl | rfl
    · exact s0 k (by rw [if_neg e]; exact hkk (by decide))
    · exact s1 k (by rw [if_neg e2]; exact hkk (by decide))
    · exact s2 k h
end Go.Proofs.YtodmkipcgfodkaaGreatDoor
end
section
set_option linter.unusedVariables false
set_option linter.unusedSimpArgs false
namespace Go.Proofs.YtodmkipcgfodkaaGreatDoor
open Go Go.Proofs.YtodmkipcgfodkaaGreatDoor.Eng Go.Proofs.YtodmkipcgfodkaaGreatDoor.Pl
set_option linter.unusedVariables false
set_option linter.unusedSimpArgs false
set_option maxRecDepth 100000
set_option maxHeartbeats 4000000
theorem trOk_in (n : Nat) : ∀ (l : List Rec) (b : Option Int), trOk n b l = true → ∀ c ∈ l, 0 ≤ c.2 ∧ c.2 < n
  | [], b, h, c, hc => by cases hc
  | x :: l, b, h, c, hc => by
    simp only [trOk, Bool.and_eq_true, decide_eq_true_eq] at h
    rcases List.mem_cons.1 hc with rfl | hc
    · exact h.1.1
    · exact trOk_in n l _ h.2 c hc
theorem look_abbr {z : Zn} (hr : zoneRight z = true) (a : Int) : abbrL (lookZ z a).2.2 = true := by
  unfold zoneRight at hr
  simp only [Bool.and_eq_true] at hr
  obtain ⟨⟨⟨⟨⟨c, r⟩, e⟩, ty⟩, tr⟩, en⟩ := hr
  unfold countOk at c
  simp only [Bool.and_eq_true] at c
  obtain ⟨⟨⟨⟨⟨⟨c1, c2⟩, c3⟩, c4⟩, c5⟩, c6⟩, c7⟩ := c
  have hin : ∀ t ∈ z.ty, abbrL t.2.2 = true := fun t ht => List.all_eq_true.1 c1 _ (List.mem_map.2 ⟨t, ht, rfl⟩)
  have hp : 1 ≤ z.ty.length := by
    unfold nin at c5
    simp only [decide_eq_true_eq] at c5; omega
  unfold lookZ
  split
  · rename_i hf
    unfold endsOk at en
    have hne : z.ft.isEmpty = false := by cases hq : z.ft with | nil => exact absurd hq hf.1 | cons c r => rfl
    rw [hne, Bool.false_or, Bool.and_eq_true] at en
    have hok := parse_ok _ en.1
    unfold Ft.look
    unfold Ft.ok at hok
    rw [Bool.and_eq_true] at hok
    split
    · rename_i hsum
      have hs : (Ft.parse z.ft).1.has = true := hsum.2.1.1
      rw [hs, if_pos rfl] at hok
      simp only [Bool.and_eq_true] at hok
      exact (kind_iff.1 hok.2.1.1).1
    · exact (kind_iff.1 hok.1).1
  · split
    · cases hq : z.ty with
      | nil => rw [hq] at hp; simp at hp
      | cons t r => exact hin t (by rw [hq]; exact .head _)
    · rename_i c hc
      have hm : c ∈ z.tr := List.mem_of_mem_take (List.mem_of_getLast? hc)
      have := trOk_in _ _ _ tr c hm
      have e : c.2.toNat < z.ty.length := by omega
      rw [List.getD, List.getElem?_eq_getElem e, Option.getD_some]
      exact hin _ (List.getElem_mem e)
/-- What a second that is shown comes to. -/
structure CivOk (z : Zn) (t : Int) : Prop where
  k : knownZ z = true
  u : (utcR z.lp t).2.2 = 0
  d : -719162 ≤ civQ z t / 86400 ∧ civQ z t / 86400 ≤ 2932896
  e : civR z t = (civC z t, 0)
theorem civ_ok {z : Zn} {t : Int} (h : (civR z t).2 = 0) : CivOk z t := by
  unfold civR at h
  cases hk : knownZ z
  · rw [hk, if_pos rfl] at h; simp at h
  rw [hk, if_neg (by simp)] at h
  by_cases hu : (utcR z.lp t).2.2 ≠ 0
  · rw [if_pos hu] at h; exact absurd h hu
  rw [if_neg hu] at h
  by_cases hd : -719162 ≤ civQ z t / 86400 ∧ civQ z t / 86400 ≤ 2932896
  · refine ⟨hk, by omega, hd, ?_⟩
    unfold civR
    rw [hk, if_neg (by simp), if_neg hu, if_pos hd]
  · rw [if_neg hd] at h; simp at h
def insT (z : Zn) (t : Int) : Int := if (utcR z.lp t).2.1 = 86400 then 1 else 0
theorem CivOk.ok {z : Zn} {t : Int} (h : CivOk z t) : okC (civC z t) = true := by
  obtain ⟨hr, _⟩ := knownZ_iff h.k
  have ho := off_of hr (t + 63072000)
  refine okC_iff.2 ⟨h.d, ?_, ?_, ?_, ho, look_abbr hr _⟩
  · show 0 ≤ civQ z t % 86400 / 3600 ∧ civQ z t % 86400 / 3600 ≤ 23; omega
  · show 0 ≤ civQ z t % 86400 / 60 % 60 ∧ civQ z t % 86400 / 60 % 60 ≤ 59; omega
  · show 0 ≤ civQ z t % 86400 % 60 + (if (utcR z.lp t).2.1 = 86400 then 1 else 0) ∧ civQ z t % 86400 % 60 + (if (utcR z.lp t).2.1 = 86400 then 1 else 0) ≤ 60
    split <;> omega
theorem civ_sec (z : Zn) (t : Int) : secC (civC z t) = (fromR z.lp t).1 + insT z t := by
  show civQ z t / 86400 * 86400 + civQ z t % 86400 / 3600 * 3600 + civQ z t % 86400 / 60 % 60 * 60 + (civQ z t % 86400 % 60 + (if (utcR z.lp t).2.1 = 86400 then 1 else 0)) - (lookZ z (t + 63072000)).1 = _
  have hq : civQ z t = (fromR z.lp t).1 + (lookZ z (t + 63072000)).1 := rfl
  unfold insT
  generalize civQ z t = q at *
  omega
theorem show_ok {z : Zn} {t : Int} {s : List UInt8} (h : showR z t = (s, 0)) : CivOk z t ∧ s = ctextB (civC z t) ∧ cparseL s = (⟨(civC z t).d, (civC z t).h, (civC z t).m, (civC z t).s, (civC z t).off, false, (civC z t).ab⟩, true) := by
  unfold showR at h
  by_cases e : (civR z t).2 = 0
  · have hc := civ_ok e
    rw [if_pos e, hc.e] at h
    unfold ctextL at h
    simp only at h
    rw [hc.ok, if_pos rfl] at h
    have hs : ctextB (civC z t) = s := congrArg (·.1) h
    refine ⟨hc, hs.symm, ?_⟩
    rw [← hs]
    exact cparse_text hc.ok
  · rw [if_neg e] at h
    exact absurd (congrArg (·.2) h) e
theorem show_of {z : Zn} {t : Int} (h : CivOk z t) : showR z t = (ctextB (civC z t), 0) := by
  unfold showR
  rw [h.e, if_pos rfl]
  unfold ctextL
  simp only
  rw [h.ok, if_pos rfl]
theorem show_same {z : Zn} (hz : ZI z) {t u : Int} {s : List UInt8} (ht : showR z t = (s, 0)) (hu : showR z u = (s, 0)) : u = t ∨ (insT z u = 1 ∧ insT z t = 0 ∧ u + 1 = t ∧ (lookZ z (t + 63072000)).1 % 60 ≠ 0) ∨ (insT z u = 0 ∧ insT z t = 1) := by
  obtain ⟨ct, _, pt⟩ := show_ok ht
  obtain ⟨cu, _, pu⟩ := show_ok hu
  rw [pt] at pu
  have he := congrArg (·.1) pu
  simp only [Cv.mk.injEq] at he
  obtain ⟨e1, e2, e3, e4, e5, _, e6⟩ := he
  have hsec : secC (civC z t) = secC (civC z u) := by unfold secC; rw [e1, e2, e3, e4, e5]
  rw [civ_sec, civ_sec] at hsec
  obtain ⟨f1, _⟩ := from_val hz.ri ct.u
  obtain ⟨g1, _⟩ := from_val hz.ri cu.u
  obtain ⟨a1, a2, a3, a4, a5, tu⟩ := utc_bd hz.ri ct.u
  obtain ⟨b1, b2, b3, b4, b5, _⟩ := utc_bd hz.ri cu.u
  rw [f1, g1] at hsec
  simp only at hsec
  have hs1 := stepD_bd tu (utcR z.lp t).1
  have hs2 := stepD_bd tu (utcR z.lp u).1
  have e4' : civQ z t % 86400 % 60 + insT z t = civQ z u % 86400 % 60 + insT z u := e4
  have e5' : (lookZ z (t + 63072000)).1 = (lookZ z (u + 63072000)).1 := e5
  have q1 : civQ z t = ofP (utcR z.lp t).1 (utcR z.lp t).2.1 + (lookZ z (t + 63072000)).1 := by unfold civQ; rw [f1]
  have q2 : civQ z u = ofP (utcR z.lp u).1 (utcR z.lp u).2.1 + (lookZ z (u + 63072000)).1 := by unfold civQ; rw [g1]
  rw [← e5'] at q2
  generalize (lookZ z (t + 63072000)).1 = off at *
  clear e1 e2 e3 e4 e5 e6 pt pu
  unfold insT ofP at *
  have hst := strt_succ tu (utcR z.lp u).1
  generalize hdt : (utcR z.lp t).1 = dt at *
  generalize hst' : (utcR z.lp t).2.1 = st at *
  generalize hdu : (utcR z.lp u).1 = du at *
  generalize hsu : (utcR z.lp u).2.1 = su at *
  by_cases i1 : st = 86400
  · by_cases i2 : su = 86400
    · rw [if_pos i1, if_pos i2] at hsec
      have : dt = du := by omega
      subst this
      exact .inl (by omega)
    · exact .inr (.inr ⟨by rw [if_neg i2], by rw [if_pos i1]⟩)
  · by_cases i2 : su = 86400
    · rw [if_neg i1, if_pos i2] at hsec
      have : dt = du + 1 := by omega
      subst this
      refine .inr (.inl ⟨by rw [if_pos i2], by rw [if_neg i1], by omega, ?_⟩)
      rw [if_neg i1, if_pos i2] at e4'
      omega
    · rw [if_neg i1, if_neg i2] at hsec
      have : dt = du := by omega
      subst this
      exact .inl (by omega)
theorem tai_of {l : List Rec} (hi : recI l) {t : Int} (h : (utcR l t).2.2 = 0) : ((utcR l t).2.1 ≠ 86400 → ptaiR l (ofP (utcR l t).1 (utcR l t).2.1) = (t, 0)) ∧ ((utcR l t).2.1 = 86400 → ptaiR l (ofP (utcR l t).1 (utcR l t).2.1) = (t - 1, 0)) := by
  obtain ⟨a1, a2, a3, a4, a5, tu⟩ := utc_bd hi h
  obtain ⟨hk, h0, hp, _, _⟩ := utcR_ok h
  have hs := stepD_bd tu (utcR l t).1
  generalize (utcR l t).1 = d at *
  generalize (utcR l t).2.1 = s at *
  have len : lenR l d = (86400 + stepD (tabT l).1.ls d, 0) := by
    unfold lenR
    rw [hk, if_neg (by simp), if_neg (by omega)]
  have main : ∀ x, 0 ≤ x → x ≤ 86399 → x < 86400 + stepD (tabT l).1.ls d → strt (tabT l).1.ls d + x ≤ t + 63072000 → ptaiR l (d * 86400 + x) = (strt (tabT l).1.ls d + x - 63072000, 0) := fun x h1 h2 h3 h4 => by
    unfold ptaiR
    have e1 : (d * 86400 + x) / 86400 = d := by omega
    have e2 : (d * 86400 + x) % 86400 = x := by omega
    rw [e1, e2]
    unfold taiR
    rw [len]
    simp only
    rw [if_neg (by omega), if_neg (by omega), if_neg (by omega)]
    have : pastR l (strt (tabT l).1.ls d + x) = false := by
      unfold pastR at hp ⊢
      cases hle : lastExp l
      · rfl
      · rw [hle, Bool.true_and, decide_eq_false_iff_not] at hp
        rw [Bool.true_and, decide_eq_false_iff_not]; omega
    rw [this, if_neg (by simp)]
  unfold ofP
  refine ⟨fun hn => ?_, fun hn => ?_⟩
  · rw [show min s 86399 = s by omega, main s a4 (by omega) a5 (by omega)]
    exact Prod.ext (by show strt _ d + s - 63072000 = t; omega) rfl
  · rw [show min s 86399 = 86399 by omega, main 86399 (by omega) (by omega) (by omega) (by omega)]
    exact Prod.ext (by show strt _ d + 86399 - 63072000 = t - 1; omega) rfl
theorem read_show {z : Zn} (hz : ZI z) {t : Int} {s : List UInt8} (h : showR z t = (s, 0)) :
    ∃ u, readR z s = (u, 0) ∧ u ≤ t ∧ i64r u ∧ showR z u = (s, 0) ∧ ((lookZ z (t + 63072000)).1 % 60 = 0 → u = t) := by
  obtain ⟨ct, _, pt⟩ := show_ok h
  obtain ⟨f1, f2, f3, f4, f5⟩ := from_val hz.ri ct.u
  obtain ⟨t1, t2⟩ := tai_of hz.ri ct.u
  unfold readR
  rw [ct.k, if_neg (by simp), pt, if_neg (by simp)]
  have hsec : secC (⟨(civC z t).d, (civC z t).h, (civC z t).m, (civC z t).s, (civC z t).off, false, (civC z t).ab⟩ : Cv) = ofP (utcR z.lp t).1 (utcR z.lp t).2.1 + insT z t := by
    have := civ_sec z t
    rw [f1] at this
    exact this
  simp only
  rw [hsec]
  by_cases hi : (utcR z.lp t).2.1 = 86400
  · have e : insT z t = 1 := by unfold insT; rw [if_pos hi]
    rw [e, show ofP (utcR z.lp t).1 (utcR z.lp t).2.1 + 1 - 1 = ofP (utcR z.lp t).1 (utcR z.lp t).2.1 by omega, t2 hi]
    rw [show ((t - 1, (0 : Int)).1 + 1) = t by show t - 1 + 1 = t; omega, h, if_pos rfl]
    exact ⟨t, rfl, by omega, by unfold i64r; omega, h, fun _ => rfl⟩
  · have e : insT z t = 0 := by unfold insT; rw [if_neg hi]
    rw [e, Int.add_zero, t1 hi]
    by_cases hu : showR z ((ptaiR z.lp (ofP (utcR z.lp t).1 (utcR z.lp t).2.1 - 1)).1 + 1) = (s, 0)
    · rw [if_pos hu]
      have hb := tai_bd hz.ri ((ofP (utcR z.lp t).1 (utcR z.lp t).2.1 - 1) / 86400) ((ofP (utcR z.lp t).1 (utcR z.lp t).2.1 - 1) % 86400)
      rw [show taiR z.lp ((ofP (utcR z.lp t).1 (utcR z.lp t).2.1 - 1) / 86400) ((ofP (utcR z.lp t).1 (utcR z.lp t).2.1 - 1) % 86400) = ptaiR z.lp (ofP (utcR z.lp t).1 (utcR z.lp t).2.1 - 1) from rfl] at hb
      rcases show_same hz h hu with q | ⟨_, _, q, q2⟩ | ⟨_, q⟩
      · exact ⟨_, rfl, by omega, by unfold i64r; omega, hu, fun _ => q⟩
      · exact ⟨_, rfl, by omega, by unfold i64r; omega, hu, fun q3 => absurd q3 q2⟩
      · rw [e] at q; omega
    · rw [if_neg hu, h, if_pos rfl]
      exact ⟨t, rfl, by omega, by unfold i64r; omega, h, fun _ => rfl⟩
end Go.Proofs.YtodmkipcgfodkaaGreatDoor
end
section
set_option linter.unusedVariables false
set_option linter.unusedSimpArgs false
namespace Go.Proofs.YtodmkipcgfodkaaGreatDoor
open Go Go.Proofs.YtodmkipcgfodkaaGreatDoor.Eng Go.Proofs.YtodmkipcgfodkaaGreatDoor.Pl
set_option linter.unusedVariables false
set_option linter.unusedSimpArgs false
set_option maxRecDepth 100000
set_option maxHeartbeats 4000000
def lz : Zn := ⟨[(-18000, false, [69, 83, 84])], [], [(78796800, 1)], [], 2⟩
def lz0 : Zn := ⟨[], [], [], [], 0⟩
theorem ilz : ZI lz := ⟨by decide, by decide, by decide, by decide, by decide, by unfold recI; decide, by unfold recI; decide, by decide⟩
theorem ilz0 : ZI lz0 := ⟨by decide, by decide, by decide, by decide, by decide, by unfold recI; decide, by unfold recI; decide, by decide⟩
def lt1 : List UInt8 := [49, 57, 55, 50, 45, 48, 54, 45, 51, 48, 84, 49, 56, 58, 53, 57, 58, 54, 48, 45, 48, 53, 58, 48, 48, 32, 69, 83, 84]
def lt2 : List UInt8 := [49, 57, 55, 50, 45, 48, 54, 45, 51, 48, 84, 49, 57, 58, 48, 48, 58, 48, 48, 45, 48, 53, 58, 48, 48, 32, 69, 83, 84]
def lt3 : List UInt8 := [49, 57, 55, 50, 45, 48, 54, 45, 51, 48, 84, 49, 56, 58, 53, 57, 58, 53, 57, 45, 48, 53, 58, 48, 48, 32, 69, 83, 84]
def lt4 : List UInt8 := [49, 57, 55, 50, 45, 48, 54, 45, 51, 48, 84, 49, 56, 58, 53, 57, 58, 53, 57, 45, 48, 52, 58, 48, 48, 32, 69, 68, 84]
def lt5 : List UInt8 := [49, 57, 55, 50, 45, 48, 54, 45, 51, 48, 32, 49, 56, 58, 53, 57, 58, 53, 57]
def lt6 : List UInt8 := [50, 48, 48, 48, 45, 48, 49, 45, 48, 49, 84, 48, 48, 58, 48, 48, 58, 48, 48, 43, 48, 53, 58, 51, 48, 58, 49, 53, 32, 76, 77, 84]
def lt7 : List UInt8 := [50, 48, 48, 48, 45, 48, 49, 45, 48, 49, 84, 48, 48, 58, 48, 48, 58, 48, 48, 45, 48, 48, 58, 48, 48, 32, 85, 84, 67]
theorem sShowAt (z : Zn) (hz : ZI z) (t : Int) (ht : i64r t) (r : List UInt8 × Int) (e : showR z t = r) {K : _ → Int → Prop} (h : K (S r.1) r.2) : Xlocal_Show (tupZ z) t K := sShow z hz t ht (by rw [e]; exact h)
theorem sLRdAt (z : Zn) (hz : ZI z) (s : List UInt8) (hs : Nat.ble s.length 1000 = true) (r : Int × Int) (e : readR z s = r) {K : Int → Int → Prop} (h : K r.1 r.2) : Xlocal_Read (tupZ z) (S s) K := sLRd z hz s (Nat.le_of_ble_eq_true hs) (by rw [e]; exact h)
theorem sLParseAt (s : List UInt8) (hs : Nat.ble s.length 1000 = true) (r : Cv × Bool) (e : cparseL s = r) {K : _ → Bool → Prop} (h : K (tupC r.1) r.2) : Xlocal_Parse (S s) K := sLParse s (Nat.le_of_ble_eq_true hs) (by rw [e]; exact h)
theorem kT (l : List UInt8) : (ByteArray.toList (S l) == ByteArray.toList (S l)) = true := by simp
def lc6 : Cv := ⟨10957, 0, 0, 0, 19815, false, [76, 77, 84]⟩
def lc0 : Cv := ⟨729, 19, 0, 0, -18000, false, [69, 83, 84]⟩
theorem lsmall {K : Bool → Prop} (h : K true) : Xepactlaw24_small K := by
  rw [Xepactlaw24_small, Yepactlaw24_small]
  refine sShowAt lz ilz 15724800 (by unfold i64r; decide) (lt1, 0) (by kernel_rfl) ?_
  refine sShowAt lz ilz 15724801 (by unfold i64r; decide) (lt2, 0) (by kernel_rfl) ?_
  refine sLRdAt lz ilz lt1 (by decide) (15724800, 0) (by kernel_rfl) ?_
  refine sLRdAt lz ilz lt3 (by decide) (15724799, 0) (by kernel_rfl) ?_
  refine sLRdAt lz ilz lt4 (by decide) (0, 11) (by kernel_rfl) ?_
  refine sLRdAt lz ilz lt5 (by decide) (0, 2) (by kernel_rfl) ?_
  refine sLParseAt lt6 (by decide) (lc6, true) (by kernel_rfl) ?_
  refine sLText lc6 (by decide) ?_
  rw [show ctextL lc6 = (lt6, true) by kernel_rfl]
  refine sLParseAt lt7 (by decide) (cv0, false) (by kernel_rfl) ?_
  refine sShowAt lz ilz (-1) (by unfold i64r; decide) ([], 9) (by kernel_rfl) ?_
  refine sCivil lz ilz 0 (by unfold i64r; decide) ?_
  rw [show civR lz 0 = (lc0, 0) by kernel_rfl]
  refine sShowAt lz0 ilz0 0 (by unfold i64r; decide) ([], 1) (by kernel_rfl) ?_
  refine ifT (kT lt1) (ifT (by rfl) (ifT (kT lt2) (ifT (by rfl) (ifT (by rfl) (ifT (by rfl) (ifT (by rfl) (ifT (by rfl) (ifT (by rfl) (ifT (by rfl) (ifT (by rfl) (ifT (by rfl) (ifT (kT lt6) (ifT (by rfl) (ifT (by rfl) (ifT (by rfl) (ifT (by rfl) (ifT (by kernel_rfl) (ifT (by rfl) ?_))))))))))))))))))
  refine sLKnown lz ilz ?_
  rw [show knownZ lz = true by kernel_rfl]
  exact h
end Go.Proofs.YtodmkipcgfodkaaGreatDoor
end
section
set_option linter.unusedVariables false
set_option linter.unusedSimpArgs false
namespace Go.Proofs.YtodmkipcgfodkaaGreatDoor
open Go Go.Proofs.YtodmkipcgfodkaaGreatDoor.Eng Go.Proofs.YtodmkipcgfodkaaGreatDoor.Pl
set_option linter.unusedVariables false
set_option linter.unusedSimpArgs false
set_option maxRecDepth 100000
set_option maxHeartbeats 1000000
def uz (l : List Rec) : Zn := ⟨[(0, false, [85, 84, 67])], [], l, [], 4⟩
theorem uz_look (l : List Rec) (a : Int) : lookZ (uz l) a = (0, false, [85, 84, 67]) := by
  unfold lookZ uz
  rw [if_neg (by simp)]
  rfl
theorem uz_right {l : List Rec} (hl : l.length ≤ 150) (h : recRight l = true) : zoneRight (uz l) = true := by
  unfold zoneRight countOk uz nin
  have e : poolN [] (List.map (fun x : Ty => x.2.2) [(0, false, [85, 84, 67])]) = 4 := by decide
  simp only [e, h]
  have e2 : (List.map (fun x : Ty => x.2.2) [(0, false, [85, 84, 67])]).all abbrL = true := by decide
  rw [e2]
  have e3 : decide ((0 : Int) ≤ (l.length : Int) ∧ (l.length : Int) ≤ 201) = true := decide_eq_true (by omega)
  simp [e3, trOk, endsOk]
  omega
theorem uz_zi {l : List Rec} (hi : recI l) (hl : l.length ≤ 150) : ZI (uz l) :=
  ⟨show 1 ≤ 100 by decide, show 0 ≤ 300 by decide, show l.length ≤ 300 by omega, show 0 ≤ 200 by decide, fun t ht => by simp only [uz, List.mem_singleton] at ht; subst ht; decide, hi, by simp [recI, uz], show i64r 4 by unfold i64r; decide⟩
theorem stampC_eq (n x : Int) : stampC n x = (dayL n ++ 84 :: (dd (clk x).1 ++ 58 :: (dd (clk x).2.1 ++ 58 :: dd (clk x).2.2.1))) ++ [90] := rfl
theorem uz_show {l : List Rec} (hi : recI l) (hl : l.length ≤ 150) (t : Int) :
    (showR (uz l) t).2 = (utcR l t).2.2 ∧ ((utcR l t).2.2 = 0 → (showR (uz l) t).1 = dayL (utcR l t).1 ++ 84 :: (dd (clk (utcR l t).2.1).1 ++ 58 :: (dd (clk (utcR l t).2.1).2.1 ++ 58 :: dd (clk (utcR l t).2.1).2.2.1)) ++ [43, 48, 48, 58, 48, 48, 32, 85, 84, 67]) ∧ ((utcR l t).2.2 ≠ 0 → (showR (uz l) t).1 = []) := by
  have hk : knownZ (uz l) = knownR l := by
    unfold knownZ
    cases h : knownR l
    · rw [show (uz l).lp = l from rfl, h, Bool.and_false]
    · rw [show (uz l).lp = l from rfl, h, uz_right hl (known_right h).1]; rfl
  by_cases e : (utcR l t).2.2 = 0
  · obtain ⟨f1, f2, f3, f4, f5⟩ := from_val hi e
    obtain ⟨a1, a2, a3, a4, a5, tu⟩ := utc_bd hi e
    obtain ⟨hkr, _⟩ := utcR_ok e
    have hs := stepD_bd tu (utcR l t).1
    have hq : civQ (uz l) t = ofP (utcR l t).1 (utcR l t).2.1 := by
      unfold civQ
      rw [uz_look, show (uz l).lp = l from rfl, f1]; simp
    have hd : -719162 ≤ civQ (uz l) t / 86400 ∧ civQ (uz l) t / 86400 ≤ 2932896 := by rw [hq]; omega
    have ct : CivOk (uz l) t := ⟨by rw [hk]; exact hkr, e, hd, by
      unfold civR
      rw [hk, hkr, if_neg (by simp), if_neg (by rw [show (uz l).lp = l from rfl]; omega), if_pos hd]⟩
    rw [show_of ct]
    refine ⟨e.symm, fun _ => ?_, fun h => absurd e h⟩
    unfold ctextB civC
    simp only
    rw [uz_look, hq, show (uz l).lp = l from rfl]
    simp only
    have hdist : distB 0 = [43, 48, 48, 58, 48, 48] := by decide +kernel
    rw [hdist]
    generalize (utcR l t).1 = d at *
    generalize (utcR l t).2.1 = s at *
    unfold ofP
    have e1 : (d * 86400 + min s 86399) / 86400 = d := by omega
    have e2 : (d * 86400 + min s 86399) % 86400 = min s 86399 := by omega
    rw [e1, e2]
    have hc : min s 86399 / 3600 = (clk s).1 ∧ min s 86399 / 60 % 60 = (clk s).2.1 ∧ min s 86399 % 60 + (if s = 86400 then 1 else 0) = (clk s).2.2.1 := by
      unfold clk
      rw [if_neg (by omega)]
      by_cases h8 : s = 86400
      · subst h8; decide
      · rw [if_neg h8, if_neg h8]
        simp only
        rw [show min s 86399 = s by omega]
        refine ⟨rfl, rfl, by omega⟩
    rw [hc.1, hc.2.1, hc.2.2]
    obtain ⟨b1, b2, b3, b4, b5, b6⟩ := clk_bd s
    rw [(dd_digs (n := (clk s).1) (by omega) (by omega)).2.2.2, (dd_digs (n := (clk s).2.1) (by omega) (by omega)).2.2.2, (dd_digs (n := (clk s).2.2.1) (by omega) (by omega)).2.2.2]
    simp
  · have hc : civR (uz l) t = (cv0, (utcR l t).2.2) := by
      unfold civR
      cases h : knownR l
      · rw [hk, h, if_pos rfl]
        unfold utcR
        rw [h, if_pos rfl]
      · rw [hk, h, if_neg (by simp), if_pos (by rw [show (uz l).lp = l from rfl]; exact e), show (uz l).lp = l from rfl]
    unfold showR
    rw [hc, if_neg e]
    exact ⟨rfl, fun h => absurd h e, fun _ => rfl⟩
theorem lLocalUtc (l : List Rec) (hi : recI l) (t : Int) (ht : i64r t) {K : Bool → Prop} (h : K true) : Xepactlaw24_LocalUtc (RV l) t K := by
  rw [Xepactlaw24_LocalUtc, Yepactlaw24_LocalUtc]
  refine lsmall ?_
  rw [RV_len]
  by_cases hl : l.length > 150
  · exact ifT (decide_eq_true (by omega)) h
  refine ifF (dneg (by omega)) ?_
  have hl : l.length ≤ 150 := by omega
  have hz := uz_zi hi hl
  obtain ⟨s1, s2, s3⟩ := uz_show hi hl t
  show Xlocal_Show (tupZ (uz l)) t _
  refine sShow (uz l) hz t ht ?_
  refine sUtc l hi (by omega) t ht ?_
  rw [s1]
  refine ifF (by simp) ?_
  by_cases e : (utcR l t).2.2 = 0
  · refine ifF (by simpa using e) ?_
    obtain ⟨a1, a2, a3, a4, a5, tu⟩ := utc_bd hi e
    have hs := stepD_bd tu (utcR l t).1
    refine sStText _ _ (by omega) (by omega) ?_
    have s2 := s2 e
    have hS : showR (uz l) t = ((showR (uz l) t).1, 0) := Prod.ext rfl (s1.trans e)
    obtain ⟨u, u1, u2, u3, u4, u5⟩ := read_show hz hS
    have hu : u = t := u5 (by rw [uz_look]; rfl)
    rw [hu] at u1
    have h20 : (stampC (utcR l t).1 (utcR l t).2.1).length = 20 := rfl
    have h19 : (stampC (utcR l t).1 (utcR l t).2.1).take 19 ++ [43, 48, 48, 58, 48, 48, 32, 85, 84, 67] = (showR (uz l) t).1 := by
      rw [s2, stampC_eq, List.take_left' (by rfl)]
    have hlen : (showR (uz l) t).1.length ≤ 1000 := by rw [← h19, List.length_append, List.length_take, h20]; decide
    generalize stampC (utcR l t).1 (utcR l t).2.1 = X at *
    generalize (showR (uz l) t).1 = Y at *
    have hx : ByteArray.extract (S X) 0 19 ++ ByteArray.mk #[(43 : UInt8), (48 : UInt8), (48 : UInt8), (58 : UInt8), (48 : UInt8), (48 : UInt8), (32 : UInt8), (85 : UInt8), (84 : UInt8), (67 : UInt8)] = S Y := by
      rw [S_extract, ← h19]
      exact S_append (X.take 19) [43, 48, 48, 58, 48, 48, 32, 85, 84, 67]
    have hxs : (ByteArray.extract (S X) 0 19).size = 19 := by rw [S_extract, S_size]; simp [h20]
    rw [hxs, S_size, h20]
    refine ifF (by simp) (ifF (by decide) ?_)
    show Xlocal_Read (tupZ (uz l)) (S Y) _
    refine sLRd (uz l) hz _ hlen ?_
    rw [u1]
    refine ifT rfl (ifT (by decide) (ifF (by decide) ?_))
    simp only [lt]
    rw [hx]
    refine ifT (kT _) (ifT (by simp) ?_)
    simpa using h
  · refine ifT (by simpa using e) (ifT rfl (ifT (by simp) ?_))
    rw [s3 e, show ByteArray.mk #[] = S [] from rfl, kT]
    exact h
end Go.Proofs.YtodmkipcgfodkaaGreatDoor
end
section
set_option linter.unusedVariables false
set_option linter.unusedSimpArgs false
namespace Go.Proofs.YtodmkipcgfodkaaGreatDoor
open Go Go.Proofs.YtodmkipcgfodkaaGreatDoor.Eng Go.Proofs.YtodmkipcgfodkaaGreatDoor.Pl
set_option linter.unusedVariables false
set_option linter.unusedSimpArgs false
theorem wfI {n : Int} (h : (Lit.int .i64 n).wf = true) : i64r n := by
  simp [Lit.wf, IntKind.min, IntKind.max, IntKind.bits, IntKind.signed] at h
  unfold i64r; omega
end Go.Proofs.YtodmkipcgfodkaaGreatDoor
end
section
set_option linter.unusedVariables false
set_option linter.unusedSimpArgs false
namespace Go.Proofs.YtodmkipcgfodkaaGreatDoor
open Go Go.Proofs.YtodmkipcgfodkaaGreatDoor.Eng Go.Proofs.YtodmkipcgfodkaaGreatDoor.Pl
theorem recs_of (a : List (Int × Int × Unit)) (h : ∀ c ∈ a, (Lit.int .i64 c.1).wf = true ∧ (Lit.int .i64 c.2.1).wf = true ∧ True) : recI (a.map fun c => (c.1, c.2.1)) := fun c hc => by
  obtain ⟨d, hd, rfl⟩ := List.mem_map.1 hc
  exact ⟨wfI (h d hd).1, wfI (h d hd).2.1⟩
theorem recs_in (a : List (Int × Int × Unit)) : (a.map fun x => V.agg [.c (.int .i64 x.1), .c (.int .i64 x.2.1)]) = RV (a.map fun c => (c.1, c.2.1)) := by
  unfold RV
  rw [List.map_map]
  rfl
theorem pureLocalUtc : PureLocalUtc := by
  intro a0 h0 a1 h1
  rw [show (akLocalUtc0.DV a0 : List V) = RV (List.map (fun c => (c.1, c.2.1)) (a0 : List (Int × Int × Unit))) from recs_in a0]
  exact lLocalUtc _ (recs_of a0 h0.2) _ (wfI h1) rfl
end Go.Proofs.YtodmkipcgfodkaaGreatDoor
end
