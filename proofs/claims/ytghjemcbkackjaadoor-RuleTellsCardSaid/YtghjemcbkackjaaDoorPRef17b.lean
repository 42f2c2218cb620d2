/- The document's own answer for rules (times that are read, numbers, whole rules). -/
import Derived.Test.YtghjemcbkackjaaDoorPRef17a
namespace Go.Proofs.YtghjemcbkackjaaDoor.T
open Go.RowKit Go.Proofs.YtghjemcbkackjaaDoorW.PrintWords Go.Proofs.YtghjemcbkackjaaDoor.F Go.Proofs.YtghjemcbkackjaaDoor.P
set_option linter.unusedVariables false
set_option linter.unusedSimpArgs false

theorem isDig_iff (a : UInt8) : isDig a = true ↔ 48 ≤ a.toNat ∧ a.toNat ≤ 57 := by unfold isDig; simp
theorem hl_step (k : Nat) (x : ByteArray) (t : List UInt8) (sg : Int) (i n : Nat) (hi : i < 3) (hlt : i < t.length) (hd : isDig t[i] = true) (hle : 10 * n + (t[i].toNat - 48) ≤ 167) :
    epactref17_Time.l0 (k + 1) x (S t) sg (i : Int) (n : Int) = epactref17_Time.l0 k x (S t) sg ((i + 1 : Nat) : Int) ((10 * n + (t[i].toNat - 48) : Nat) : Int) := by
  have h := (isDig_iff _).1 hd
  simp only [epactref17_Time.l0]
  have e1 : ((t[i].toNat : Int) - 48) % 256 = ((t[i].toNat - 48 : Nat) : Int) := by omega
  have e2 : wrap64 (10 * (n : Int)) = ((10 * n : Nat) : Int) := by rw [wrap_in _ (by omega) (by omega)]; omega
  have e3 : wrap64 (((10 * n : Nat) : Int) + ((t[i].toNat - 48 : Nat) : Int)) = ((10 * n + (t[i].toNat - 48) : Nat) : Int) := by rw [wrap_in _ (by omega) (by omega)]; omega
  have e4 : wrap64 ((i : Int) + 1) = ((i + 1 : Nat) : Int) := by rw [wrap_in _ (by omega) (by omega)]; omega
  rw [S_sizeI, if_pos (by omega), if_pos (by omega), if_pos (by omega), S_bt t i hlt, if_pos (by omega), if_pos (by omega), e1, e2, e3, e4, if_pos (by omega)]
theorem hl_stop (k : Nat) (x : ByteArray) (t : List UInt8) (sg : Int) (i n : Nat) (hi : i ≤ 3) (hn : n ≤ 167) (h : i = 3 ∨ t.length ≤ i ∨ (∃ hlt : i < t.length, isDig t[i] = false ∨ 167 < 10 * n + (t[i].toNat - 48))) :
    epactref17_Time.l0 (k + 1) x (S t) sg (i : Int) (n : Int) = epactref17_Time.j3 k x (S t) sg (i : Int) (n : Int) := by
  simp only [epactref17_Time.l0]
  rw [S_sizeI]
  by_cases hlt : i < t.length
  · rw [if_pos (by omega)]
    by_cases h3 : i = 3
    · rw [if_neg (by omega)]
    · rw [if_pos (by omega), if_pos (by omega), S_bt t i hlt]
      have h' : isDig t[i] = false ∨ 167 < 10 * n + (t[i].toNat - 48) := by
        rcases h with h | h | ⟨_, h⟩
        · exact absurd h h3
        · omega
        · exact h
      by_cases a1 : (t[i].toNat : Int) ≥ 48
      · rw [if_pos a1]
        by_cases a2 : (t[i].toNat : Int) ≤ 57
        · rw [if_pos a2]
          have hd : isDig t[i] = true := (isDig_iff _).2 (by omega)
          have h2 : 167 < 10 * n + (t[i].toNat - 48) := by
            rcases h' with h' | h'
            · rw [hd] at h'; cases h'
            · exact h'
          have e1 : ((t[i].toNat : Int) - 48) % 256 = ((t[i].toNat - 48 : Nat) : Int) := by omega
          have e2 : wrap64 (10 * (n : Int)) = ((10 * n : Nat) : Int) := by rw [wrap_in _ (by omega) (by omega)]; omega
          have e3 : wrap64 (((10 * n : Nat) : Int) + ((t[i].toNat - 48 : Nat) : Int)) = ((10 * n + (t[i].toNat - 48) : Nat) : Int) := by rw [wrap_in _ (by omega) (by omega)]; omega
          rw [e1, e2, e3, if_neg (by omega)]
        · rw [if_neg a2]
      · rw [if_neg a1]
  · rw [if_neg (by omega)]
theorem valL_one (a : UInt8) : valL [a] = a.toNat - 48 := by simp [valL]
theorem valL_two (a b : UInt8) : valL [a, b] = 10 * (a.toNat - 48) + (b.toNat - 48) := by simp [valL]
theorem valL_three (a b c : UInt8) : valL [a, b, c] = 10 * (10 * (a.toNat - 48) + (b.toNat - 48)) + (c.toNat - 48) := by simp [valL]
theorem hourLoop (k : Nat) (x : ByteArray) (sg : Int) (R : Option (Int × ByteArray × Bool)) (t : List UInt8) (hR : ∀ k', epactref17_Time.j3 (k' + 1) x (S t) sg ((hourL t).2 : Int) ((hourL t).1 : Int) = R) :
    epactref17_Time.l0 (k + 5) x (S t) sg 0 0 = R := by
  have z : ∀ k, epactref17_Time.l0 k x (S t) sg 0 0 = epactref17_Time.l0 k x (S t) sg ((0 : Nat) : Int) ((0 : Nat) : Int) := fun _ => rfl
  rw [z]
  match t, hR with
  | [], hR => rw [hl_stop (k + 4) x [] sg 0 0 (by omega) (by omega) (Or.inr (Or.inl (by simp)))]; exact hR _
  | a :: t1, hR =>
    have ua := u8_lt a
    by_cases ha : isDig a = true
    · have da := (isDig_iff a).1 ha
      rw [hl_step (k + 4) x (a :: t1) sg 0 0 (by omega) (by simp) ha (by simp only [List.getElem_cons_zero]; omega)]
      simp only [List.getElem_cons_zero, Nat.mul_zero, Nat.zero_add]
      match t1, hR with
      | [], hR =>
        rw [hl_stop (k + 3) x [a] sg 1 _ (by omega) (by omega) (Or.inr (Or.inl (by simp)))]
        have e : hourL [a] = (a.toNat - 48, 1) := by
          unfold hourL
          rw [dl_cons, if_pos ha, dl_nil]
          simp only [Nat.zero_add, Nat.reduceLeDiff, Nat.min_eq_left, List.take_succ_cons, List.take_nil, List.take_zero, valL_one]
          rw [if_neg (by omega)]
        rw [e] at hR; exact hR _
      | b :: t2, hR =>
        have ub := u8_lt b
        by_cases hb : isDig b = true
        · have db := (isDig_iff b).1 hb
          rw [hl_step (k + 3) x (a :: b :: t2) sg 1 _ (by omega) (by simp) hb (by simp only [List.getElem_cons_succ, List.getElem_cons_zero]; omega)]
          simp only [List.getElem_cons_succ, List.getElem_cons_zero]
          match t2, hR with
          | [], hR =>
            rw [hl_stop (k + 2) x [a, b] sg 2 _ (by omega) (by omega) (Or.inr (Or.inl (by simp)))]
            have e : hourL [a, b] = (10 * (a.toNat - 48) + (b.toNat - 48), 2) := by
              unfold hourL
              rw [dl_cons, if_pos ha, dl_cons, if_pos hb, dl_nil]
              simp only [Nat.zero_add, Nat.reduceAdd, Nat.reduceLeDiff, Nat.min_eq_left, List.take_succ_cons, List.take_nil, List.take_zero, valL_two]
              rw [if_neg (by omega)]
            rw [e] at hR; exact hR _
          | c :: t3, hR =>
            have uc := u8_lt c
            by_cases hc : isDig c = true
            · have dc := (isDig_iff c).1 hc
              have em : min (dl (a :: b :: c :: t3)) 3 = 3 := by rw [dl_cons, if_pos ha, dl_cons, if_pos hb, dl_cons, if_pos hc]; omega
              by_cases hbig : 167 < 10 * (10 * (a.toNat - 48) + (b.toNat - 48)) + (c.toNat - 48)
              · rw [hl_stop (k + 2) x _ sg 2 _ (by omega) (by omega) (Or.inr (Or.inr ⟨by simp, Or.inr (by simpa using hbig)⟩))]
                have e : hourL (a :: b :: c :: t3) = (10 * (a.toNat - 48) + (b.toNat - 48), 2) := by
                  unfold hourL
                  rw [em]
                  simp only [List.take_succ_cons, List.take_zero, valL_three]
                  rw [if_pos (by omega)]
                  refine Prod.ext ?_ rfl
                  simp only []; omega
                rw [e] at hR; exact hR _
              · rw [hl_step (k + 2) x _ sg 2 _ (by omega) (by simp) (by simpa using hc) (by simp only [List.getElem_cons_succ, List.getElem_cons_zero]; omega)]
                simp only [List.getElem_cons_succ, List.getElem_cons_zero]
                rw [hl_stop (k + 1) x _ sg 3 _ (by omega) (by omega) (Or.inl rfl)]
                have e : hourL (a :: b :: c :: t3) = (10 * (10 * (a.toNat - 48) + (b.toNat - 48)) + (c.toNat - 48), 3) := by
                  unfold hourL
                  rw [em]
                  simp only [List.take_succ_cons, List.take_zero, valL_three]
                  rw [if_neg (by omega)]
                rw [e] at hR; exact hR _
            · have hc' : isDig c = false := by simpa using hc
              rw [hl_stop (k + 2) x _ sg 2 _ (by omega) (by omega) (Or.inr (Or.inr ⟨by simp, Or.inl (by simpa using hc')⟩))]
              have e : hourL (a :: b :: c :: t3) = (10 * (a.toNat - 48) + (b.toNat - 48), 2) := by
                unfold hourL
                rw [dl_cons, if_pos ha, dl_cons, if_pos hb, dl_cons, if_neg hc]
                simp only [Nat.zero_add, Nat.reduceAdd, Nat.reduceLeDiff, Nat.min_eq_left, List.take_succ_cons, List.take_zero, valL_two]
                rw [if_neg (by omega)]
              rw [e] at hR; exact hR _
        · have hb' : isDig b = false := by simpa using hb
          rw [hl_stop (k + 3) x _ sg 1 _ (by omega) (by omega) (Or.inr (Or.inr ⟨by simp, Or.inl (by simpa using hb')⟩))]
          have e : hourL (a :: b :: t2) = (a.toNat - 48, 1) := by
            unfold hourL
            rw [dl_cons, if_pos ha, dl_cons, if_neg hb]
            simp only [Nat.zero_add, Nat.reduceLeDiff, Nat.min_eq_left, List.take_succ_cons, List.take_zero, valL_one]
            rw [if_neg (by omega)]
          rw [e] at hR; exact hR _
    · have ha' : isDig a = false := by simpa using ha
      rw [hl_stop (k + 4) x _ sg 0 0 (by omega) (by omega) (Or.inr (Or.inr ⟨by simp, Or.inl (by simpa using ha')⟩))]
      have e : hourL (a :: t1) = (0, 0) := by
        unfold hourL
        rw [dl_cons, if_neg ha]
        rfl
      rw [e] at hR; exact hR _
theorem refJ3_eq (k : Nat) (x : ByteArray) (t : List UInt8) (sg : Int) (hsg : sg = 1 ∨ sg = -1) (hd : dl t ≠ 0) :
    epactref17_Time.j3 (k + 1) x (S t) sg ((hourL t).2 : Int) ((hourL t).1 : Int) =
      some (sg * (((hourL t).1 : Int) * 3600 + (sixtyL (t.drop (hourL t).2)).1 * 60 + (moreL (sixtyL (t.drop (hourL t).2))).1), S (moreL (sixtyL (t.drop (hourL t).2))).2.1, true) := by
  obtain ⟨b1, b2, b3, b4⟩ := hour_bd t
  have b4' := b4 hd
  have hdl := dl_le t
  simp only [epactref17_Time.j3]
  rw [if_neg (by omega), if_pos (by omega), if_pos (by rw [S_size]; omega), Int.toNat_natCast, S_drop, refTwo_eq]
  simp only [Option.bind_some]
  generalize hu : t.drop (hourL t).2 = u
  generalize hN : (hourL t).1 = N at b1 ⊢
  have s1 := sixty_bd u
  have e1 : wrap64 (sg * 3600) = sg * 3600 := by rw [wrap_in _ (by omega) (by omega)]
  have e2 : wrap64 (3600 * (N : Int)) = 3600 * (N : Int) := by rw [wrap_in _ (by omega) (by omega)]
  unfold moreL
  cases hok : (sixtyL u).2.2
  · have hz : (sixtyL u).1 = 0 ∧ (sixtyL u).2.1 = u := by
      have := hok
      unfold sixtyL at this ⊢
      split at this
      · split at this
        · cases this
        · rename_i h; rw [if_neg h]; exact ⟨rfl, rfl⟩
      · exact ⟨rfl, rfl⟩
    simp only [Bool.false_eq_true, if_false]
    rw [if_pos (show (-1 : Int) < 0 by decide), e1, hz.1, hz.2]
    have e3 : wrap64 (sg * 3600 * (N : Int)) = sg * ((N : Int) * 3600 + 0 * 60 + 0) := by
      rcases hsg with rfl | rfl
      · rw [wrap_in _ (by omega) (by omega)]; omega
      · rw [wrap_in _ (by omega) (by omega)]; omega
    rw [e3]
  · rw [if_pos rfl, if_neg (by omega), if_pos rfl, refTwo_eq]
    simp only [Option.bind_some]
    generalize hm : (sixtyL u).1 = m at s1 ⊢
    generalize hr : (sixtyL u).2.1 = r
    have s2 := sixty_bd r
    have e4 : wrap64 (60 * m) = 60 * m := by rw [wrap_in _ (by omega) (by omega)]
    have e5 : wrap64 (3600 * (N : Int) + 60 * m) = 3600 * (N : Int) + 60 * m := by rw [wrap_in _ (by omega) (by omega)]
    rw [e2, e4, e5]
    cases hok2 : (sixtyL r).2.2
    · have hz : (sixtyL r).1 = 0 ∧ (sixtyL r).2.1 = r := by
        have := hok2
        unfold sixtyL at this ⊢
        split at this
        · split at this
          · cases this
          · rename_i h; rw [if_neg h]; exact ⟨rfl, rfl⟩
        · exact ⟨rfl, rfl⟩
      simp only [Bool.false_eq_true, if_false]
      rw [if_pos (show (-1 : Int) < 0 by decide), hz.1, hz.2]
      have e6 : wrap64 (sg * (3600 * (N : Int) + 60 * m)) = sg * ((N : Int) * 3600 + m * 60 + 0) := by
        rcases hsg with rfl | rfl
        · rw [wrap_in _ (by omega) (by omega)]; omega
        · rw [wrap_in _ (by omega) (by omega)]; omega
      rw [e6]
    · rw [if_pos rfl, if_neg (by omega)]
      generalize hx : (sixtyL r).1 = y at s2 ⊢
      have e7 : wrap64 (3600 * (N : Int) + 60 * m + y) = 3600 * (N : Int) + 60 * m + y := by rw [wrap_in _ (by omega) (by omega)]
      have e8 : wrap64 (sg * (3600 * (N : Int) + 60 * m + y)) = sg * ((N : Int) * 3600 + m * 60 + y) := by
        rcases hsg with rfl | rfl
        · rw [wrap_in _ (by omega) (by omega)]; omega
        · rw [wrap_in _ (by omega) (by omega)]; omega
      rw [e7, e8]
theorem refTimeJ1 (k : Nat) (l t : List UInt8) (sg : Int) (hsg : sg = 1 ∨ sg = -1) (h : signL l = (sg, t)) : epactref17_Time.j1 (k + 6) (S l) (S t) sg = some ((timeL l).1, S (timeL l).2.1, (timeL l).2.2) := by
  simp only [epactref17_Time.j1]
  refine hourLoop k (S l) sg _ t (fun k' => ?_)
  unfold timeL
  rw [h]
  by_cases hd : dl t = 0
  · have e : hourL t = (0, 0) := by
      unfold hourL
      rw [hd]
      rfl
    rw [e, if_pos hd]
    simp only [epactref17_Time.j3]
    rfl
  · rw [if_neg hd, refJ3_eq k' _ t sg hsg hd]
theorem refTime_eq (k : Nat) (l : List UInt8) (hk : 8 ≤ k) : epactref17_Time.f k (S l) = some ((timeL l).1, S (timeL l).2.1, (timeL l).2.2) := by
  obtain ⟨k, rfl⟩ : ∃ j, k = j + 7 := ⟨k - 7, by omega⟩
  unfold epactref17_Time.f
  rw [S_sizeI]
  match l with
  | [] =>
    rw [if_neg (by simp), epactref17_Time.j0, if_neg (by decide)]
    exact refTimeJ1 k [] [] 1 (Or.inl rfl) rfl
  | c :: r =>
    have hlen : (c :: r).length = r.length + 1 := rfl
    rw [if_pos (by rw [hlen]; omega), if_pos (by rw [hlen]; omega), S_bt0]
    have cut : (S (c :: r)).extract 1 (S (c :: r)).size = S r := by rw [S_drop]; rfl
    by_cases h45 : c = 45
    · subst h45
      rw [if_pos (show ((45 : UInt8).toNat : Int) = 45 from rfl), epactref17_Time.j0, if_pos rfl, S_sizeI, if_pos (by rw [hlen]; omega), S_bt0, if_pos (show ((45 : UInt8).toNat : Int) = 45 from rfl), if_pos (by rw [hlen]; omega), cut]
      exact refTimeJ1 k (45 :: r) r (-1) (Or.inr rfl) (by rfl)
    · have n45 : ¬ ((c.toNat : Int) = 45) := fun h => h45 (u8_eq (by simpa using Int.ofNat_inj.1 h))
      rw [if_neg n45]
      by_cases h43 : c = 43
      · subst h43
        rw [show (((43 : UInt8).toNat : Int) == 43) = true from rfl, epactref17_Time.j0, if_pos rfl, S_sizeI, if_pos (by rw [hlen]; omega), S_bt0, if_neg n45, if_pos (by rw [hlen]; omega), cut]
        exact refTimeJ1 k (43 :: r) r 1 (Or.inl rfl) (by rfl)
      · have n43 : ((c.toNat : Int) == 43) = false := by
          rw [beq_eq_false_iff_ne]
          exact fun h => h43 (u8_eq (by simpa using Int.ofNat_inj.1 h))
        rw [n43, epactref17_Time.j0, if_neg (by decide)]
        refine refTimeJ1 k (c :: r) (c :: r) 1 (Or.inl rfl) ?_
        show (if c = 45 then ((-1 : Int), r) else if c = 43 then (1, r) else (1, c :: r)) = _
        rw [if_neg h45, if_neg h43]
end Go.Proofs.YtghjemcbkackjaaDoor.T
