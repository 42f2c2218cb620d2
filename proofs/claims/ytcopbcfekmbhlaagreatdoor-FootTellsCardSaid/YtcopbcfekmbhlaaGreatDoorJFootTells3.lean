/- What the functions come to in plain data, with proofs, and what that answers. -/
import Derived.Test.YtcopbcfekmbhlaaGreatDoorJFootTells2
section
set_option linter.unusedVariables false
set_option linter.unusedSimpArgs false
namespace Go.Proofs.YtcopbcfekmbhlaaGreatDoor.Pl
open Go
set_option linter.unusedVariables false
set_option linter.unusedSimpArgs false

theorem year_of_day {n y : Int} (h1 : 1 ≤ y) (h2 : y ≤ 9999) (h3 : fst y ≤ n) (h4 : n < fst (y + 1)) : yearP n = y := by
  have hb := fst_bd h1 h2
  have b1 : fst 1 ≤ fst y := fst_le h1
  have e1 : fst 1 = -719162 := rfl
  obtain ⟨hv, hn⟩ := num_date (n := n) (by omega) (by omega)
  have hb2 := num_bd hv
  rw [hn] at hb2
  generalize yearP n = z at *
  by_cases hlt : z < y
  · have := fst_le (y := z + 1) (z := y) (by omega); omega
  · by_cases hgt : y < z
    · have := fst_le (y := y + 1) (z := z) (by omega); omega
    · omega
theorem first_day {n : Int} (h0 : -719162 ≤ n) (h1 : n ≤ 2932896) (h : n = fst (yearP n)) : monP n = 1 ∧ dayP n = 1 := by
  obtain ⟨hv, hn⟩ := num_date h0 h1
  have hv1 : Vld (yearP n) 1 1 := ⟨hv.1, hv.2.1, by omega, by omega, by omega, by rw [dim_jan]; omega⟩
  have e := date_num hv1
  rw [num_first, ← h] at e
  exact e.2
theorem new_year {n : Int} (h0 : -719162 ≤ n - 1) (h1 : n ≤ 2932896) (h : yearP n ≠ yearP (n - 1)) : monP n = 1 ∧ dayP n = 1 := by
  obtain ⟨hv, hn⟩ := num_date (n := n) (by omega) h1
  have hb := num_bd hv
  rw [hn] at hb
  refine first_day (by omega) h1 ?_
  by_cases e : fst (yearP n) ≤ n - 1
  · exact absurd (year_of_day hv.1 hv.2.1 e (by omega)).symm h
  · omega
/-- What holds changes where a span begins or ends, or a year does. -/
theorem sum_turns {f : Ft} {p : Int} (h : ¬ (f.sum p ↔ f.sum (p + 1))) :
    (inDays (p + 1 + f.so) ∧ f.spans (yearP ((p + 1 + f.so) / 86400)) ∧ (p + 1 = f.from' (yearP ((p + 1 + f.so) / 86400)) ∨ p + 1 = f.to' (yearP ((p + 1 + f.so) / 86400)))) ∨
    (inDays (p + 1 + f.so) ∧ monP ((p + 1 + f.so) / 86400) = 1 ∧ dayP ((p + 1 + f.so) / 86400) = 1 ∧ p + 1 + f.so = 86400 * ((p + 1 + f.so) / 86400)) ∨
    (¬ inDays (p + 1 + f.so) ∧ (p + 1 + f.so) / 86400 = 2932897) := by
  by_cases e1 : inDays (p + 1 + f.so)
  · by_cases ed : (p + f.so) / 86400 = (p + 1 + f.so) / 86400
    · refine .inl ⟨e1, ?_⟩
      have e2 : inDays (p + f.so) := by unfold inDays; rw [ed]; exact e1
      by_cases es : f.spans (yearP ((p + 1 + f.so) / 86400))
      · refine ⟨es, ?_⟩
        have s1 : f.sum p ↔ _ := ⟨fun h => h.2.2, fun h => ⟨e2, by rw [ed]; exact es, h⟩⟩
        have s2 : f.sum (p + 1) ↔ _ := ⟨fun h => h.2.2, fun h => ⟨e1, es, h⟩⟩
        rw [ed] at s1
        generalize f.from' (yearP ((p + 1 + f.so) / 86400)) = a at *
        generalize f.to' (yearP ((p + 1 + f.so) / 86400)) = b at *
        rw [s1, s2] at h
        omega
      · exfalso
        refine h ⟨fun h => absurd h.2.1 (by rw [ed]; exact es), fun h => absurd h.2.1 es⟩
    · have hd : p + 1 + f.so = 86400 * ((p + 1 + f.so) / 86400) ∧ (p + f.so) / 86400 = (p + 1 + f.so) / 86400 - 1 := by omega
      unfold inDays at e1
      by_cases e2 : inDays (p + f.so)
      · unfold inDays at e2
        by_cases ey : yearP ((p + f.so) / 86400) = yearP ((p + 1 + f.so) / 86400)
        · refine .inl ⟨e1, ?_⟩
          by_cases es : f.spans (yearP ((p + 1 + f.so) / 86400))
          · refine ⟨es, ?_⟩
            have s1 : f.sum p ↔ _ := ⟨fun h => h.2.2, fun h => ⟨e2, by rw [ey]; exact es, h⟩⟩
            have s2 : f.sum (p + 1) ↔ _ := ⟨fun h => h.2.2, fun h => ⟨e1, es, h⟩⟩
            rw [ey] at s1
            generalize f.from' (yearP ((p + 1 + f.so) / 86400)) = a at *
            generalize f.to' (yearP ((p + 1 + f.so) / 86400)) = b at *
            rw [s1, s2] at h
            clear s1 s2 ey es hd
            omega
          · exfalso
            refine h ⟨fun h => absurd h.2.1 (by rw [ey]; exact es), fun h => absurd h.2.1 es⟩
        · obtain ⟨m1, m2⟩ := new_year (n := (p + 1 + f.so) / 86400) (by omega) (by omega) (by rw [hd.2] at ey; exact Ne.symm ey)
          exact .inr (.inl ⟨e1, m1, m2, hd.1⟩)
      · have e3 : (p + 1 + f.so) / 86400 = -719162 := by unfold inDays at e2; omega
        have hy : yearP (-719162) = 1 := by decide +kernel
        obtain ⟨m1, m2⟩ := first_day (n := (p + 1 + f.so) / 86400) (by omega) (by omega) (by rw [e3, hy]; rfl)
        exact .inr (.inl ⟨e1, m1, m2, hd.1⟩)
  · by_cases e2 : inDays (p + f.so)
    · refine .inr (.inr ⟨e1, ?_⟩)
      unfold inDays at *
      omega
    · exfalso
      exact h ⟨fun h => absurd h.1 e2, fun h => absurd h.1 e1⟩
/-- In a year whose spans are known. -/
theorem sum_year {f : Ft} {y n : Int} (hs : f.spans y) (h0 : 0 ≤ n) (h1 : n < 31536000) : f.sum (86400 * fst y - f.so + n) ↔
    ((f.from' y ≤ 86400 * fst y - f.so + n ∧ 86400 * fst y - f.so + n < f.to' y) ∨ (f.to' y ≤ f.from' y ∧ (f.from' y ≤ 86400 * fst y - f.so + n ∨ 86400 * fst y - f.so + n < f.to' y))) := by
  have hy1 := hs.2.2.1
  have hy2 := hs.2.2.2
  have hb := fst_bd hy1 hy2
  have hs1 := fst_succ y
  have e : (86400 * fst y - f.so + n + f.so) / 86400 = fst y + n / 86400 := by omega
  have ey : yearP (fst y + n / 86400) = y := year_of_day hy1 hy2 (by omega) (by rw [hs1]; split <;> omega)
  have ed : inDays (86400 * fst y - f.so + n + f.so) := by unfold inDays; rw [e]; have : fst (y + 1) ≥ fst y + 365 := by rw [hs1]; split <;> omega
                                                           omega
  unfold Ft.sum
  rw [e, ey]
  exact ⟨fun h => h.2.2, fun h => ⟨ed, hs, h⟩⟩

theorem nl_app (q : UInt8 → Bool) (a b : List UInt8) (ha : ∀ c ∈ a, q c = false) (hb : ∀ c, b.head? = some c → q c = true) : nl q (a ++ b) = a.length := by
  refine nl_of q _ _ (by simp) (fun c hc => ?_) fun h => ?_
  · rw [List.take_left'] at hc
    · exact ha c hc
    · rfl
  · rw [List.getElem_append_right (by omega)]
    simp only [Nat.sub_self]
    cases b with
    | nil => simp at h
    | cons c b => exact hb c rfl
theorem abbr_all {l : List UInt8} (h : abbrL l = true) : ∀ c ∈ l, badC c = false := by
  unfold abbrL at h
  simp only [Bool.and_eq_true, Bool.not_eq_true', List.any_eq_false] at h
  intro c hc
  have := h.2 c hc
  simpa using this
theorem nameP_name (a rest : List UInt8) (ha : abbrL a = true) (hr : ∀ c, rest.head? = some c → letC c = false) : nameP (nameT a ++ rest) = (a, true, rest) := by
  have hall := abbr_all ha
  unfold nameT nameP
  by_cases e : a.any (fun c => !letC c) = true
  · rw [if_pos e]
    have h60 : (60 :: (a ++ [62]) ++ rest).head? = some 60 := rfl
    have ht : (60 :: (a ++ [62]) ++ rest).tail = a ++ (62 :: rest) := by simp
    rw [if_pos h60, ht]
    have hn : nl (· == 62) (a ++ 62 :: rest) = a.length := nl_app _ _ _ (fun c hc => by
      have := hall c hc
      unfold badC at this
      rw [beq_eq_false_iff_ne]; rintro rfl; revert this; decide) (fun c hc => by simp at hc; subst hc; rfl)
    unfold splitL
    rw [hn, if_pos (by simp)]
    simp [ha]
  · rw [if_neg e]
    have hal : ∀ c ∈ a, letC c = true := by
      simp only [List.any_eq_true, not_exists, not_and, Bool.not_eq_true', Bool.not_eq_false] at e
      exact e
    have hne : a ≠ [] := by rintro rfl; unfold abbrL at ha; simp at ha
    have h60 : (a ++ rest).head? ≠ some 60 := by
      cases a with
      | nil => exact absurd rfl hne
      | cons c a =>
        have := hal c (.head _)
        intro h
        simp at h
        subst h; revert this; decide
    have hn : nl (fun c => !letC c) (a ++ rest) = a.length := nl_app _ _ _ (fun c hc => by simp [hal c hc]) fun c hc => by simp [hr c hc]
    rw [if_neg h60, hn]
    simp [ha]
theorem clockL_head (x : Int) (h : -604799 ≤ x ∧ x ≤ 604799) (r : List UInt8) : ∃ c t, (clockL x).1 ++ r = c :: t ∧ (isDig c = true ∨ c = 45) := by
  unfold clockL
  rw [if_pos h]
  obtain ⟨c, t, e, hc⟩ := clockB_head x.natAbs (by omega) r
  by_cases hn : x < 0
  · rw [if_pos hn]
    refine ⟨45, clockB x.natAbs ++ r, by simp, .inr rfl⟩
  · rw [if_neg hn]
    exact ⟨c, t, by simpa using e, .inl hc⟩
theorem dig_let {c : UInt8} (h : isDig c = true ∨ c = 45) : letC c = false := by
  rcases h with h | rfl
  · unfold isDig at h
    simp at h
    unfold letC
    simp
    omega
  · decide
theorem nameT_head (a r : List UInt8) (ha : abbrL a = true) : ∃ c t, nameT a ++ r = c :: t ∧ isDig c = false ∧ c ≠ 58 := by
  unfold nameT
  by_cases e : a.any (fun c => !letC c) = true
  · rw [if_pos e]; exact ⟨60, _, rfl, by decide, by decide⟩
  · rw [if_neg e]
    cases a with
    | nil => unfold abbrL at ha; simp at ha
    | cons c a =>
      have hc : letC c = true := by
        simp only [List.any_eq_true, not_exists, not_and, Bool.not_eq_true', Bool.not_eq_false] at e
        exact e c (.head _)
      refine ⟨c, a ++ r, rfl, ?_, ?_⟩
      · cases hd : isDig c
        · rfl
        · rw [dig_let (.inl hd)] at hc; cases hc
      · rintro rfl; revert hc; decide
theorem time_none (l : List UInt8) (h : l.head? = some 44) : timeL l = (0, l, false) := by
  cases l with
  | nil => cases h
  | cons c l =>
    simp at h
    subst h
    have hs : signL (44 :: l) = (1, 44 :: l) := rfl
    unfold timeL
    rw [hs, if_pos (by rw [dl_cons]; rfl)]
theorem kind_all {o : Int} {d : Bool} {l : List UInt8} {w : Bool} : kindR o d l w = true ↔ abbrL l = true ∧ d = w ∧ -89999 ≤ o ∧ o ≤ 89999 := by
  unfold kindR; simp [and_assoc]
theorem ruleP_text (r : Ru) (h : r.ok = true) (t : List UInt8) (ht : ∀ c, t.head? = some c → isDig c = false ∧ c ≠ 58 ∧ c ≠ 47) : ruleP (44 :: (r.txt ++ t)) = ⟨true, t, r⟩ := by
  have e : cutP 44 (44 :: (r.txt ++ t)) = (r.txt ++ t, true) := rfl
  unfold ruleP
  rw [e]
  have := parse_text r.k r.a r.b r.c r.x h t ht
  unfold Ru.txt
  simp only
  rw [this]
  rfl
theorem ft_eq (f : Ft) (h1 : f.sd = false) (h2 : f.wd = true) (h3 : f.has = true) : (⟨f.so, false, f.sa, f.wo, true, f.wa, true, f.fr, f.to⟩ : Ft) = f := by
  cases f; simp only at h1 h2 h3; subst h1 h2 h3; rfl
/-- What was written is read as it was. -/
theorem parse_foot (f : Ft) (h : f.ok = true) : Ft.parse f.txt = (f, true) := by
  have h0 := h
  unfold Ft.ok at h
  rw [Bool.and_eq_true] at h
  obtain ⟨k1, k2, k3, k4⟩ := kind_all.1 h.1
  have cs := clockL_head (-f.so) (by omega)
  have c44 : isDig 44 = false ∧ (44 : UInt8) ≠ 58 ∧ (44 : UInt8) ≠ 47 := by decide
  by_cases eh : f.has = true
  · rw [if_pos eh, Bool.and_eq_true, Bool.and_eq_true] at h
    obtain ⟨_, ⟨h1, h2⟩, h3⟩ := h
    obtain ⟨j1, j2, j3, j4⟩ := kind_all.1 h1
    unfold Ft.txt
    rw [if_pos eh]
    obtain ⟨rest2, hr2⟩ : ∃ r, r = (if f.wo - f.so ≠ 3600 then (clockL (-f.wo)).1 else []) ++ 44 :: (f.fr.txt ++ 44 :: f.to.txt) := ⟨_, rfl⟩
    rw [← hr2]
    have hlet2 : ∀ c, rest2.head? = some c → letC c = false := by
      intro c hc
      rw [hr2] at hc
      split at hc
      · obtain ⟨c', t, e, hd⟩ := clockL_head (-f.wo) (by omega) (44 :: (f.fr.txt ++ 44 :: f.to.txt))
        rw [e] at hc; simp at hc; subst hc
        exact dig_let hd
      · simp at hc; subst hc; decide
    have hu : usualP (nameT f.sa ++ ((clockL (-f.so)).1 ++ (nameT f.wa ++ rest2))) = ⟨true, nameT f.wa ++ rest2, f.so, f.sa⟩ := by
      unfold usualP
      rw [nameP_name f.sa _ k1 (fun c hc => by obtain ⟨c', t, e, hd⟩ := cs (nameT f.wa ++ rest2); rw [e] at hc; simp at hc; subst hc; exact dig_let hd)]
      simp only
      rw [time_clock (-f.so) (by omega) _ (fun c hc => by obtain ⟨c', t, e, hd⟩ := nameT_head f.wa rest2 j1; rw [e] at hc; simp at hc; subst hc; exact hd)]
      simp
    have hs : summerP f.so (nameT f.wa ++ rest2) = ⟨true, 44 :: (f.fr.txt ++ 44 :: f.to.txt), f.wo, f.wa⟩ := by
      unfold summerP
      rw [nameP_name f.wa _ j1 hlet2]
      simp only
      by_cases e3 : f.wo - f.so = 3600
      · rw [if_neg (by simpa using e3)] at hr2
        rw [hr2, List.nil_append, time_none _ rfl]
        simp only [Bool.false_eq_true, if_false]
        have : f.so + 3600 = f.wo := by omega
        rw [this]
      · rw [if_pos e3] at hr2
        rw [hr2, time_clock (-f.wo) (by omega) _ (fun c hc => by simp at hc; subst hc; exact ⟨c44.1, c44.2.1⟩)]
        simp
    have hp1 := ruleP_text f.fr h2 (44 :: f.to.txt) (fun c hc => by simp at hc; subst hc; exact c44)
    have hp2 := ruleP_text f.to h3 [] (fun c hc => by simp at hc)
    rw [List.append_nil] at hp2
    have hne : nameT f.wa ++ rest2 ≠ [] := by
      obtain ⟨c, t, e, _⟩ := nameT_head f.wa rest2 j1
      rw [e]; simp
    unfold Ft.parse
    rw [hu]
    simp only [if_neg hne, if_true]
    rw [hs]
    simp only [if_true]
    rw [hp1]
    simp only [if_true]
    rw [hp2]
    simp only [if_true]
    have ef := ft_eq f k2 j2 eh
    rw [ef]
    unfold Ft.chk
    rw [if_pos h0]
  · rw [if_neg eh] at h
    unfold Ft.txt
    rw [if_neg eh]
    have hu : usualP (nameT f.sa ++ ((clockL (-f.so)).1 ++ [])) = ⟨true, [], f.so, f.sa⟩ := by
      unfold usualP
      rw [nameP_name f.sa _ k1 (fun c hc => by obtain ⟨c', t, e, hd⟩ := cs []; rw [e] at hc; simp at hc; subst hc; exact dig_let hd)]
      simp only
      rw [time_clock (-f.so) (by omega) _ (fun c hc => by simp at hc)]
      simp
    unfold Ft.parse
    rw [hu]
    simp only [if_true]
    have hb := of_decide_eq_true h.2
    have ef : (⟨f.so, false, f.sa, 0, false, [], false, .z, .z⟩ : Ft) = f := by
      obtain ⟨b1, b2, b3, ⟨b4, b5, b6, b7, b8⟩, b9, b10, b11, b12, b13⟩ := hb
      obtain ⟨so, sd, sa, wo, wd, wa, has, ⟨fk, fa, fb, fc, fx⟩, ⟨tk, ta, tb, tc, tx⟩⟩ := f
      simp only at *
      simp at eh
      subst b1 b2 b3 b4 b5 b6 b7 b8 b9 b10 b11 b12 b13 eh k2
      rfl
    rw [ef]
    unfold Ft.chk
    rw [if_pos h0]
/-- What is read is right. -/
theorem parse_ok (l : List UInt8) : (Ft.parse l).2 = true → (Ft.parse l).1.ok = true := by
  have hc : ∀ f : Ft, f.chk.2 = true → f.chk.1.ok = true := fun f h => by
    unfold Ft.chk at *
    split at h
    · rename_i e; rw [if_pos e]; exact e
    · cases h
  unfold Ft.parse
  repeat' split
  all_goals first | exact hc _ | (intro h; cases h)
theorem parse_no (l : List UInt8) : (Ft.parse l).2 = false → (Ft.parse l).1 = .z := by
  have hc : ∀ f : Ft, f.chk.2 = false → f.chk.1 = .z := fun f h => by
    unfold Ft.chk at *
    split at h
    · cases h
    · rename_i e; rw [if_neg e]
  unfold Ft.parse
  repeat' split
  all_goals first | exact hc _ | (intro h; rfl)
end Go.Proofs.YtcopbcfekmbhlaaGreatDoor.Pl
end
section
set_option linter.unusedVariables false
set_option linter.unusedSimpArgs false
namespace Go.Proofs.YtcopbcfekmbhlaaGreatDoor
open Go Go.Proofs.YtcopbcfekmbhlaaGreatDoor.Eng Go.Proofs.YtcopbcfekmbhlaaGreatDoor.Pl
set_option linter.unusedVariables false
set_option linter.unusedSimpArgs false

theorem sHasPrefix (l : List UInt8) (c : UInt8) {K} (h : K (l.head? == some c)) : Xinternal_stringslite_HasPrefix (S l) (S [c]) K := by
  unfold Xinternal_stringslite_HasPrefix Yinternal_stringslite_HasPrefix
  simp only [S_size, S_extract, S_toList, decide_eq_true_eq, ge_iff_le, List.length_singleton]
  cases l with
  | nil => exact ifF (by simp) h
  | cons a l =>
    refine ifT (by simp; omega) (ifT (by simp; omega) ?_)
    have e : ((List.take (Int.toNat (((1 : Nat) : Int)) - 0) (List.drop 0 (a :: l)) == [c]) : Bool) = ((a :: l).head? == some c) := by
      simp
    rw [e]; exact h
theorem sCutPrefix (l : List UInt8) (c : UInt8) {K} (h : K (S (cutP c l).1) (cutP c l).2) : Xstrings_CutPrefix (S l) (S [c]) K := by
  unfold Xstrings_CutPrefix Ystrings_CutPrefix Xinternal_stringslite_CutPrefix Yinternal_stringslite_CutPrefix
  refine sHasPrefix l c ?_
  unfold cutP at h
  by_cases e : l.head? = some c
  · rw [if_pos e] at h
    refine ifF (by simp [e]) ?_
    have hl : 1 ≤ l.length := by cases l <;> simp at e ⊢
    simp only [S_size, S_extract, List.length_singleton]
    refine ifT (by omega) (ifT (by omega) ?_)
    have e2 : (l.drop (Int.toNat ((1 : Nat) : Int))).take (Int.toNat (l.length : Int) - Int.toNat ((1 : Nat) : Int)) = l.tail := by
      rw [List.take_of_length_le (by simp)]; simp
    rw [e2]; exact h
  · rw [if_neg e] at h
    exact ifT (by simp [e]) h
theorem sIndex (l : List UInt8) (c : UInt8) {K} (h : K (if nl (· == c) l < l.length then (nl (· == c) l : Int) else -1)) : Xinternal_stringslite_Index (S l) (S [c]) K := by
  unfold Xinternal_stringslite_Index Yinternal_stringslite_Index
  simp only [S_size, S_toList, beq_iff_eq, List.length_singleton]
  refine ifF (by decide) (ifC (fun e => ?_) fun _ => ifT rfl (ifT (by decide) ?_))
  · subst e
    have : nl (· == c) [c] = 0 := by rw [nl_cons]; simp
    rw [this] at h; exact h
  · unfold XindexByte
    rw [indexByte_nl, S_data]
    have : (Eng.bAt (S [c]) 0).toNat.toUInt8 = c := by rw [bAt0]; simp
    rw [this]; exact h
theorem sCut (l : List UInt8) (c : UInt8) (hl : l.length ≤ 140737488351232) {K} (h : K (S (splitL c l).1) (S (splitL c l).2.1) (splitL c l).2.2) : Xstrings_Cut (S l) (S [c]) K := by
  unfold Xstrings_Cut Ystrings_Cut Xinternal_stringslite_Cut Yinternal_stringslite_Cut
  refine sIndex l c ?_
  unfold splitL at h
  simp only [S_size, S_extract, List.length_singleton, decide_eq_true_eq, ge_iff_le]
  by_cases e : nl (· == c) l < l.length
  · rw [if_pos e] at h
    simp only [if_pos e]
    rw [w64_in (by omega) (by omega)]
    refine ifT (by omega) (ifT (by omega) (ifT (by omega) (ifT (by omega) (ifT (by omega) ?_))))
    have e1 : Int.toNat ((nl (· == c) l : Int) + ((1 : Nat) : Int)) = nl (· == c) l + 1 := by omega
    have e2 : Int.toNat ((nl (· == c) l : Int)) = nl (· == c) l := by omega
    rw [e1, e2]
    rw [show (l.drop (nl (· == c) l + 1)).take (Int.toNat (l.length : Int) - (nl (· == c) l + 1)) = l.drop (nl (· == c) l + 1) from List.take_of_length_le (by simp)]
    exact h
  · rw [if_neg e] at h
    simp only [if_neg e]
    exact ifF (by omega) h
theorem sTrimPrefix (l : List UInt8) (c : UInt8) {K} (h : K (S (cutP c l).1)) : Xstrings_TrimPrefix (S l) (S [c]) K := by
  unfold Xstrings_TrimPrefix Ystrings_TrimPrefix Xinternal_stringslite_TrimPrefix Yinternal_stringslite_TrimPrefix
  refine sHasPrefix l c ?_
  unfold cutP at h
  by_cases e : l.head? = some c
  · rw [if_pos e] at h
    refine ifT (by simp [e]) ?_
    have hl : 1 ≤ l.length := by cases l <;> simp at e ⊢
    simp only [S_size, S_extract, List.length_singleton]
    refine ifT (by omega) (ifT (by omega) ?_)
    have e2 : (l.drop (Int.toNat ((1 : Nat) : Int))).take (Int.toNat (l.length : Int) - Int.toNat ((1 : Nat) : Int)) = l.tail := by
      rw [List.take_of_length_le (by simp)]; simp
    rw [e2]; exact h
  · rw [if_neg e] at h
    exact ifF (by simp [e]) h

theorem sIndexFunc {x : Int → (Bool → Prop) → Prop} (q : UInt8 → Bool) (hx : ∀ (c : UInt8) (K : Bool → Prop), c.toNat < 128 → K (q c) → x (c.toNat : Int) K) (hx' : ∀ (n : Nat) (K : Bool → Prop), 128 ≤ n → K true → x (n : Int) K)
    (hq : ∀ c : UInt8, 128 ≤ c.toNat → q c = true) (l : List UInt8) {K : Int → Prop} (h : K (if nl q l < l.length then (nl q l : Int) else -1)) : Ystrings_indexFunc x (S l) true K := by
  unfold Ystrings_indexFunc
  refine lp_ind (fun st => l.length - st.2.1.2) (fun st => st.1.2.1 = true ∧ st.2.1.1 = S l ∧ st.2.1.2 ≤ l.length ∧ ∀ c ∈ l.take st.2.1.2, q c = false) ?_ ⟨rfl, rfl, Nat.zero_le _, by simp⟩
  rintro ⟨⟨⟨_, _⟩, b, r, _, _⟩, ⟨s, pos⟩, _⟩ ⟨h1, h2, h3, h4⟩ k hk
  simp only at h1 h2 h3 h4 hk
  subst h1; subst h2
  unfold Lstrings_indexFunc_0
  simp only [S_size]
  refine ifC (fun hp => ?_) fun hp => ?_
  · by_cases hlo : l[pos].toNat < 128
    · simp only [decode_lo l pos hp hlo]
      refine hx _ _ hlo ?_
      refine ifC (fun hb => ?_) fun hb => ?_
      · have hn : nl q l = pos := nl_of q l pos h3 h4 fun _ => by simpa using hb
        rw [hn, if_pos hp] at h; exact h
      · refine hk _ ⟨rfl, rfl, hp, fun c hc => ?_⟩ (by simp only; omega)
        rw [List.take_add_one, List.mem_append] at hc
        rcases hc with hc | hc
        · exact h4 c hc
        · simp [List.getElem?_eq_getElem hp] at hc
          subst hc; simpa using hb
    · obtain ⟨d1, d2⟩ := decode_hi l pos hp (by omega)
      refine hx' _ _ d1 (ifT rfl ?_)
      have hn : nl q l = pos := nl_of q l pos h3 h4 fun _ => hq _ (by omega)
      rw [hn, if_pos hp] at h; exact h
  · have hpos : pos = l.length := by omega
    have hn : nl q l = l.length := nl_of q l _ (Nat.le_refl _) (by rw [← hpos]; exact h4) fun h => by omega
    rw [hn, if_neg (by omega)] at h; exact h

theorem sgood (n : Int) {K} (h : K (decide ((97 ≤ n ∧ n ≤ 122) ∨ (65 ≤ n ∧ n ≤ 90) ∨ (48 ≤ n ∧ n ≤ 57) ∨ n = 43 ∨ n = 45))) : Xabbr_good n K := by
  unfold Xabbr_good Yabbr_good
  simp only [decide_eq_true_eq, beq_iff_eq, ge_iff_le]
  repeat' (first | refine ifT (by omega) ?_ | refine ifF (by omega) ?_ | refine ifC (fun _ => ?_) (fun _ => ?_))
  all_goals (refine cast (congrArg K ?_) h; first | (rw [decide_eq_true_eq]; omega) | (rw [decide_eq_false_iff_not]; omega) | (apply Bool.eq_iff_iff.2; rw [decide_eq_true_eq, beq_iff_eq]; omega))
theorem sbad (n : Int) {K} (h : K (!decide ((97 ≤ n ∧ n ≤ 122) ∨ (65 ≤ n ∧ n ≤ 90) ∨ (48 ≤ n ∧ n ≤ 57) ∨ n = 43 ∨ n = 45))) : Xabbr_Right_1 n K := by
  unfold Xabbr_Right_1 Yabbr_Right_1
  exact sgood n h
theorem sabbr (l : List UInt8) {K} (h : K (abbrL l)) : Xabbr_Right (S l) K := by
  unfold Xabbr_Right Yabbr_Right
  unfold abbrL at h
  simp only [decide_eq_true_eq, ge_iff_le, S_size]
  by_cases e : 3 ≤ l.length ∧ l.length ≤ 16
  · refine ifT (by omega) (ifT (by omega) ?_)
    unfold Xstrings_ContainsFunc Ystrings_ContainsFunc Xstrings_IndexFunc Ystrings_IndexFunc Xstrings_indexFunc
    refine sIndexFunc badC (fun c K hc h => sbad _ (cast (congrArg K ?_) h)) (fun n K hn h => sbad _ (cast (congrArg K ?_) h)) (fun c hc => ?_) l ?_
    · unfold badC; apply Bool.eq_iff_iff.2; simp; omega
    · symm; simp; omega
    · unfold badC; simp; omega
    · rw [decide_eq_true e, Bool.true_and, nl_any] at h
      by_cases e2 : nl badC l < l.length
      · rw [if_pos e2]; rw [decide_eq_true e2] at h
        refine cast (congrArg K ?_) h; simp
      · rw [if_neg e2]; rw [decide_eq_false e2] at h
        refine cast (congrArg K ?_) h; simp
  · rw [decide_eq_false e, Bool.false_and] at h
    exact ifC (fun _ => ifF (by omega) h) fun _ => h
end Go.Proofs.YtcopbcfekmbhlaaGreatDoor
end
section
set_option linter.unusedVariables false
set_option linter.unusedSimpArgs false
namespace Go.Proofs.YtcopbcfekmbhlaaGreatDoor
open Go Go.Proofs.YtcopbcfekmbhlaaGreatDoor.Eng Go.Proofs.YtcopbcfekmbhlaaGreatDoor.Pl
set_option linter.unusedVariables false
set_option linter.unusedSimpArgs false

theorem dl_of (l : List UInt8) (k : Nat) (hk : k ≤ l.length) (h1 : ∀ c ∈ l.take k, isDig c = true) (h2 : ∀ h : k < l.length, isDig l[k] = false) : dl l = k := by
  have := nl_of (fun c => !isDig c) l k hk (fun c hc => by simp [h1 c hc]) (fun h => by simp [h2 h])
  rw [← this]; unfold nl dl; simp
theorem sdigits (l : List UInt8) {K} (h : K (dl l : Int)) : Xrule_digits (S l) K := by
  unfold Xrule_digits Yrule_digits
  refine lp_ind (fun st => l.length - st.2.1.2) (fun st => st.1.1 = S l ∧ st.2.1.1 = S l ∧ st.2.1.2 ≤ l.length ∧ ∀ c ∈ l.take st.2.1.2, isDig c = true) ?_ ⟨rfl, rfl, Nat.zero_le _, by simp⟩
  rintro ⟨⟨a0, r, _, _⟩, ⟨s, pos⟩, _⟩ ⟨h1, h2, h3, h4⟩ k hk
  simp only at h1 h2 h3 h4 hk
  subst h1; subst h2
  unfold Lrule_digits_0
  simp only [S_size, decide_eq_true_eq, gt_iff_lt]
  refine ifC (fun hp => ?_) fun hp => ?_
  · by_cases hlo : l[pos].toNat < 128
    · simp only [decode_lo l pos hp hlo]
      by_cases hd : isDig l[pos] = true
      · have hd' := hd
        unfold isDig at hd'
        simp at hd'
        refine ifF (by omega) (ifF (by omega) ?_)
        refine hk _ ⟨rfl, rfl, hp, fun c hc => ?_⟩ (by simp only; omega)
        rw [List.take_add_one, List.mem_append] at hc
        rcases hc with hc | hc
        · exact h4 c hc
        · simp [List.getElem?_eq_getElem hp] at hc
          subst hc; exact hd
      · have hn : dl l = pos := dl_of l pos h3 h4 fun _ => by simpa using hd
        have hd' := hd
        unfold isDig at hd'
        simp at hd'
        rw [hn] at h
        exact ifC (fun _ => h) fun _ => ifT (by omega) h
    · obtain ⟨d1, d2⟩ := decode_hi l pos hp (by omega)
      have hn : dl l = pos := dl_of l pos h3 h4 fun _ => by unfold isDig; simp; omega
      rw [hn] at h
      exact ifF (by omega) (ifT (by omega) h)
  · have hpos : pos = l.length := by omega
    have hn : dl l = l.length := dl_of l _ (Nat.le_refl _) (by rw [← hpos]; exact h4) fun h => by omega
    rw [hn] at h; exact h

theorem satoi (l : List UInt8) (hne : l ≠ []) (hd : ∀ c ∈ l, isDig c = true) (hl : l.length ≤ 18) {K} (h : K (valL l : Int) .nilIface) : Xatoi (S l) K :=
  ⟨_, by rw [S_size]; exact hl, by rw [S_data]; exact atoi_val l hne hd, h⟩
theorem sitoa (n : Int) (h0 : -9223372036854775808 ≤ n) (h1 : n ≤ 9223372036854775807) {K} (h : K (S (itoaK n))) : Xitoa n K :=
  ⟨⟨h0, h1⟩, by rw [← itoaK_eq n h0 h1]; exact h⟩

theorem ssixty (l : List UInt8) {K} (h : K (sixtyL l).1 (S (sixtyL l).2.1) (sixtyL l).2.2) : Xrule_sixty (S l) K := by
  unfold Xrule_sixty Yrule_sixty
  simp only [S_size, S_extract, decide_eq_true_eq, gt_iff_lt, bne_iff_ne, ne_eq]
  match l, h with
  | [], h => exact ifT (by simp) h
  | [_], h => exact ifT (by simp) h
  | [_, _], h => exact ifT (by simp) h
  | c :: a :: b :: r, h =>
    have hlen : (c :: a :: b :: r).length = r.length + 3 := rfl
    rw [hlen]
    refine ifF (by omega) (ifT (by omega) ?_)
    rw [bAt0, bAt1]
    simp only [sixtyL] at h
    by_cases hc : c = 58
    · subst hc
      refine ifF (by simp) (ifT (by omega) (ifT (by omega) ?_))
      have e1 : ((58 :: a :: b :: r).drop 1).take (Int.toNat ((r.length + 3 : Nat) : Int) - 1) = a :: b :: r := by
        rw [List.drop_succ_cons, List.drop_zero, List.take_of_length_le (by simp; omega)]
      rw [e1]
      refine sdigits _ ?_
      rw [dl_cons, dl_cons]
      by_cases ha : isDig a = true
      · by_cases hb : isDig b = true
        · rw [if_pos ha, if_pos hb]
          refine ifF (by omega) (ifT (by omega) ?_)
          by_cases h5 : a.toNat ≤ 53
          · rw [if_pos ⟨rfl, ha, hb, h5⟩] at h
            refine ifF (by omega) (ifT (by omega) ?_)
            have e2 : ((58 :: a :: b :: r).drop 1).take (3 - 1) = [a, b] := rfl
            rw [e2]
            refine satoi [a, b] (by simp) (by simp [ha, hb]) (by simp) (ifT (by omega) (ifT (by omega) ?_))
            have e3 : ((58 :: a :: b :: r).drop 3).take (Int.toNat ((r.length + 3 : Nat) : Int) - 3) = r := by
              rw [show (58 :: a :: b :: r).drop 3 = r from rfl, List.take_of_length_le (by omega)]
            rw [e3]
            unfold isDig at ha hb
            simp at ha hb
            have e4 : (valL [a, b] : Int) = 10 * (a.toNat - 48) + (b.toNat - 48) := by simp [valL]; omega
            rw [e4]; exact h
          · rw [if_neg (by rintro ⟨_, _, _, h⟩; exact h5 h)] at h
            exact ifT (by omega) h
        · rw [if_neg (by rintro ⟨_, _, h, _⟩; exact hb h)] at h
          rw [if_pos ha, if_neg hb]
          exact ifT (by omega) h
      · rw [if_neg (by rintro ⟨_, h, _⟩; exact ha h)] at h
        rw [if_neg ha]
        exact ifT (by omega) h
    · rw [if_neg (by rintro ⟨h, _⟩; exact hc h)] at h
      refine ifT (fun h => hc (u8_eq ?_)) h
      have : c.toNat = 58 := by omega
      exact this
theorem smore (p : Int × List UInt8 × Bool) {K} (h : K (moreL p).1 (S (moreL p).2.1) (moreL p).2.2) : Xrule_more (S p.2.1) p.2.2 K := by
  unfold Xrule_more Yrule_more
  unfold moreL at h
  by_cases e : p.2.2 = true
  · rw [if_pos e] at h
    exact ifF (by simp [e]) (ssixty _ h)
  · rw [if_neg e] at h
    exact ifT (by simpa using e) h
theorem more_bd (t : List UInt8) : 0 ≤ (moreL (sixtyL t)).1 ∧ (moreL (sixtyL t)).1 ≤ 59 := by
  unfold moreL; split
  · exact sixty_bd _
  · simp
theorem stime (l : List UInt8) (hl : l.length ≤ 140737488351232) {K} (h : K (timeL l).1 (S (timeL l).2.1) (timeL l).2.2) : Xrule_Time (S l) K := by
  unfold Xrule_Time Yrule_Time
  have key : ∀ (t : List UInt8) (sg : Int), (sg = 1 ∨ sg = -1) → t.length ≤ l.length → signL l = (sg, t) →
      (dl t = 0 → K 0 (S l) false) ∧ (dl t ≠ 0 → ∃ v k : Nat, hourL t = (v, k) ∧ v ≤ 167 ∧ 1 ≤ k ∧ k ≤ dl t ∧ k ≤ 3 ∧
        K (sg * ((v : Int) * 3600 + (sixtyL (t.drop k)).1 * 60 + (moreL (sixtyL (t.drop k))).1)) (S (moreL (sixtyL (t.drop k))).2.1) true) := by
    intro t sg hsg ht he
    unfold timeL at h
    rw [he] at h
    refine ⟨fun h0 => by rw [if_pos h0] at h; exact h, fun h0 => ?_⟩
    rw [if_neg h0] at h
    obtain ⟨b1, b2, b3, b4⟩ := hour_bd t
    exact ⟨_, _, rfl, b1, b4 h0, b2, b3, h⟩
  have mn : ∀ t : List UInt8, (if (3 : Int) < (dl t : Int) then (3 : Int) else (dl t : Int)) = ((min (dl t) 3 : Nat) : Int) := fun t => by split <;> omega
  have hval : ∀ t : List UInt8, dl t ≠ 0 → ∀ {K : Int → Value → Prop}, K (valL (t.take (min (dl t) 3)) : Int) .nilIface → Xatoi (S ((t.drop 0).take (Int.toNat ((min (dl t) 3 : Nat) : Int) - 0))) K := fun t h0 K hK => by
    rw [List.drop_zero, Nat.sub_zero, Int.toNat_natCast]
    have hlen : (t.take (min (dl t) 3)).length = min (dl t) 3 := by rw [List.length_take]; have := dl_le t; omega
    exact satoi _ (fun e => by rw [e] at hlen; simp at hlen; omega) (take_dl_dig t _ (Nat.min_le_left _ _)) (by omega) hK
  have tdiv : ∀ v : Nat, Int.tdiv (v : Int) 10 = ((v / 10 : Nat) : Int) := fun v => by rw [Int.tdiv_eq_ediv_of_nonneg (by omega)]; rfl
  have fin : ∀ (t : List UInt8) (k : Nat), (t.drop k).take (t.length - k) = t.drop k := fun t k => List.take_of_length_le (by simp)
  refine sTrimPrefix l 45 ?_
  by_cases h45 : l.head? = some 45
  · obtain ⟨t, rfl⟩ : ∃ t, l = 45 :: t := by cases l with
      | nil => simp at h45
      | cons a t => simp at h45; subst h45; exact ⟨t, rfl⟩
    have e : (cutP 45 (45 :: t)).1 = t := rfl
    rw [e]
    obtain ⟨k1, k2⟩ := key t (-1) (.inr rfl) (by simp) rfl
    have hdl := dl_le t
    simp only [S_size, S_extract, beq_iff_eq, decide_eq_true_eq, gt_iff_lt]
    simp only [List.length_cons] at hl ⊢
    refine ifF (by omega) (sdigits _ ?_)
    rw [mn]
    refine ifC (fun h0 => k1 (by omega)) fun h0 => ?_
    have h0' : dl t ≠ 0 := by omega
    obtain ⟨v, kk, hh, b1, b2, b3, b4, hK⟩ := k2 h0'
    refine ifT (by omega) (ifT (by omega) (hval t h0' ?_))
    unfold hourL at hh
    by_cases hg : valL (t.take (min (dl t) 3)) > 167
    · rw [if_pos hg] at hh
      obtain ⟨rfl, rfl⟩ : _ = v ∧ _ = kk := by simpa using hh
      refine ifT (by omega) (ifT (by omega) ?_)
      rw [w64_in (n := ((min (dl t) 3 : Nat) : Int) - 1) (by omega) (by omega), show ((min (dl t) 3 : Nat) : Int) - 1 = ((min (dl t) 3 - 1 : Nat) : Int) by omega]
      refine ifT (by omega) ?_
      simp only [lt, Int.toNat_natCast, fin, tdiv]
      refine ssixty _ (smore _ ?_)
      have hs := sixty_bd (t.drop (min (dl t) 3 - 1))
      have hm := more_bd (t.drop (min (dl t) 3 - 1))
      generalize valL (t.take (min (dl t) 3)) / 10 = v at *
      generalize (sixtyL (t.drop (min (dl t) 3 - 1))).1 = a at *
      generalize (moreL (sixtyL (t.drop (min (dl t) 3 - 1)))).1 = b at *
      rw [w64_in (n := (v : Int)) (by omega) (by omega), w64_in (n := (v : Int) * 3600) (by omega) (by omega), w64_in (n := a * 60) (by omega) (by omega), w64_in (n := (v : Int) * 3600 + a * 60) (by omega) (by omega), w64_in (n := (v : Int) * 3600 + a * 60 + b) (by omega) (by omega), w64_in (by omega) (by omega)]
      exact hK
    · rw [if_neg hg] at hh
      obtain ⟨rfl, rfl⟩ : _ = v ∧ _ = kk := by simpa using hh
      refine ifF (by omega) (ifT (by omega) (ifT (by omega) ?_))
      simp only [lt, Int.toNat_natCast, fin]
      refine ssixty _ (smore _ ?_)
      have hs := sixty_bd (t.drop (min (dl t) 3))
      have hm := more_bd (t.drop (min (dl t) 3))
      generalize valL (t.take (min (dl t) 3)) = v at *
      generalize (sixtyL (t.drop (min (dl t) 3))).1 = a at *
      generalize (moreL (sixtyL (t.drop (min (dl t) 3)))).1 = b at *
      rw [w64_in (n := (v : Int) * 3600) (by omega) (by omega), w64_in (n := a * 60) (by omega) (by omega), w64_in (n := (v : Int) * 3600 + a * 60) (by omega) (by omega), w64_in (n := (v : Int) * 3600 + a * 60 + b) (by omega) (by omega), w64_in (by omega) (by omega)]
      exact hK
  · have e : (cutP 45 l).1 = l := by unfold cutP; rw [if_neg h45]
    rw [e]
    refine ifT (by simp) (sTrimPrefix l 43 ?_)
    have hs : ∃ t, signL l = (1, t) ∧ (cutP 43 l).1 = t ∧ t.length ≤ l.length := by
      unfold signL cutP
      cases l with
      | nil => exact ⟨[], rfl, rfl, Nat.le_refl _⟩
      | cons a r =>
        have ha : a ≠ 45 := by simpa using h45
        simp only [if_neg ha, List.head?_cons, Option.some.injEq, List.tail_cons]
        by_cases h43 : a = 43
        · simp [h43]
        · simp [h43]
    obtain ⟨t, h1, h2, h3⟩ := hs
    rw [h2]
    obtain ⟨k1, k2⟩ := key t 1 (.inl rfl) h3 h1
    have hdl := dl_le t
    simp only [S_size, S_extract, beq_iff_eq, decide_eq_true_eq, gt_iff_lt]
    refine sdigits _ ?_
    rw [mn]
    refine ifC (fun h0 => k1 (by omega)) fun h0 => ?_
    have h0' : dl t ≠ 0 := by omega
    obtain ⟨v, kk, hh, b1, b2, b3, b4, hK⟩ := k2 h0'
    refine ifT (by omega) (ifT (by omega) (hval t h0' ?_))
    unfold hourL at hh
    by_cases hg : valL (t.take (min (dl t) 3)) > 167
    · rw [if_pos hg] at hh
      obtain ⟨rfl, rfl⟩ : _ = v ∧ _ = kk := by simpa using hh
      refine ifT (by omega) (ifT (by omega) ?_)
      rw [w64_in (n := ((min (dl t) 3 : Nat) : Int) - 1) (by omega) (by omega), show ((min (dl t) 3 : Nat) : Int) - 1 = ((min (dl t) 3 - 1 : Nat) : Int) by omega]
      refine ifT (by omega) ?_
      simp only [lt, Int.toNat_natCast, fin, tdiv]
      refine ssixty _ (smore _ ?_)
      have hs := sixty_bd (t.drop (min (dl t) 3 - 1))
      have hm := more_bd (t.drop (min (dl t) 3 - 1))
      generalize valL (t.take (min (dl t) 3)) / 10 = v at *
      generalize (sixtyL (t.drop (min (dl t) 3 - 1))).1 = a at *
      generalize (moreL (sixtyL (t.drop (min (dl t) 3 - 1)))).1 = b at *
      rw [w64_in (n := (v : Int)) (by omega) (by omega), w64_in (n := (v : Int) * 3600) (by omega) (by omega), w64_in (n := a * 60) (by omega) (by omega), w64_in (n := (v : Int) * 3600 + a * 60) (by omega) (by omega), w64_in (n := (v : Int) * 3600 + a * 60 + b) (by omega) (by omega), w64_in (by omega) (by omega)]
      exact hK
    · rw [if_neg hg] at hh
      obtain ⟨rfl, rfl⟩ : _ = v ∧ _ = kk := by simpa using hh
      refine ifF (by omega) (ifT (by omega) (ifT (by omega) ?_))
      simp only [lt, Int.toNat_natCast, fin]
      refine ssixty _ (smore _ ?_)
      have hs := sixty_bd (t.drop (min (dl t) 3))
      have hm := more_bd (t.drop (min (dl t) 3))
      generalize valL (t.take (min (dl t) 3)) = v at *
      generalize (sixtyL (t.drop (min (dl t) 3))).1 = a at *
      generalize (moreL (sixtyL (t.drop (min (dl t) 3)))).1 = b at *
      rw [w64_in (n := (v : Int) * 3600) (by omega) (by omega), w64_in (n := a * 60) (by omega) (by omega), w64_in (n := (v : Int) * 3600 + a * 60) (by omega) (by omega), w64_in (n := (v : Int) * 3600 + a * 60 + b) (by omega) (by omega), w64_in (by omega) (by omega)]
      exact hK
end Go.Proofs.YtcopbcfekmbhlaaGreatDoor
end
section
set_option linter.unusedVariables false
set_option linter.unusedSimpArgs false
namespace Go.Proofs.YtcopbcfekmbhlaaGreatDoor
open Go Go.Proofs.YtcopbcfekmbhlaaGreatDoor.Eng Go.Proofs.YtcopbcfekmbhlaaGreatDoor.Pl
set_option linter.unusedVariables false
set_option linter.unusedSimpArgs false

theorem take_all (t : List UInt8) (k : Nat) : (t.drop k).take (t.length - k) = t.drop k := List.take_of_length_le (by simp)
theorem swithin (n a b : Int) {K} (h : K (decide (a ≤ n ∧ n ≤ b))) : Xrule_within n a b K := by
  unfold Xrule_within Yrule_within
  simp only [decide_eq_true_eq, ge_iff_le]
  refine ifC (fun h1 => cast (congrArg K ?_) h) fun h1 => cast (congrArg K ?_) h
  · simp [h1]
  · simp [h1]
theorem sruleRight (k a b c x : Int) {K} (h : K (rightR k a b c x)) : Xrule_Right (k, a, b, c, x, ()) K := by
  unfold Xrule_Right Yrule_Right
  simp only [beq_iff_eq, decide_eq_true_eq, gt_iff_lt]
  refine swithin _ _ _ ?_
  have fin : ∀ z : Bool, (z = true ↔ ((-604799 ≤ x ∧ x ≤ 604799) ∧ ((k = 0 ∧ 1 ≤ a ∧ a ≤ 12 ∧ 1 ≤ b ∧ b ≤ 5 ∧ 0 ≤ c ∧ c ≤ 6) ∨ (k = 1 ∧ 1 ≤ a ∧ a ≤ 365 ∧ b = 0 ∧ c = 0) ∨ (k = 2 ∧ 0 ≤ a ∧ a ≤ 365 ∧ b = 0 ∧ c = 0)))) → K z := fun z hz =>
    cast (congrArg K (Bool.eq_iff_iff.2 ((right_iff k a b c x).trans hz.symm))) h
  clear h
  refine ifC (fun k0 => ?_) fun k0 => ?_
  · refine ifC (fun hx => ?_) fun hx => fin _ ?_
    · refine swithin _ _ _ (ifC (fun ha => swithin _ _ _ (ifC (fun hb => swithin _ _ _ (fin _ ?_)) fun hb => fin _ ?_)) fun ha => fin _ ?_)
      all_goals (simp only [decide_eq_true_eq, Bool.false_eq_true, false_iff] at *; omega)
    · simp only [decide_eq_true_eq, Bool.false_eq_true, false_iff] at *; omega
  · refine ifC (fun k1 => ?_) fun k1 => ifC (fun k2 => ?_) fun k2 => fin _ (by simp only [Bool.false_eq_true, false_iff]; omega)
    · refine ifC (fun hx => ifC (fun ha => swithin _ _ _ (ifC (fun hb => ifC (fun hc => fin _ ?_) fun hc => fin _ ?_) fun hb => fin _ ?_)) fun ha => fin _ ?_) fun hx => fin _ ?_
      all_goals (simp only [decide_eq_true_eq, Bool.false_eq_true, false_iff, beq_iff_eq] at *; omega)
    · refine ifC (fun hx => swithin _ _ _ (ifC (fun hb => ifC (fun hc => fin _ ?_) fun hc => fin _ ?_) fun hb => fin _ ?_)) fun hx => fin _ ?_
      all_goals (simp only [decide_eq_true_eq, Bool.false_eq_true, false_iff, beq_iff_eq] at *; omega)
theorem snumber (l : List UInt8) (m : Nat) (hm : m ≤ 18) {K} (h : K (numberL l m).1 (S (numberL l m).2.1) (numberL l m).2.2) : Xrule_number (S l) (m : Int) K := by
  unfold Xrule_number Yrule_number
  refine sdigits _ ?_
  have hd := dl_le l
  unfold numberL at h
  simp only [beq_iff_eq, decide_eq_true_eq, gt_iff_lt, S_size, S_extract, Int.toNat_natCast, take_all, List.drop_zero, Nat.sub_zero]
  by_cases e : dl l = 0 ∨ m < dl l
  · rw [if_pos e] at h
    exact ifC (fun _ => h) fun _ => ifT (by omega) h
  · rw [if_neg e] at h
    refine ifF (by omega) (ifF (by omega) (ifT (by omega) (ifT (by omega) ?_)))
    have hlen : (l.take (dl l)).length = dl l := by rw [List.length_take]; omega
    exact satoi _ (fun e => by rw [e] at hlen; simp at hlen; omega) (take_dl_dig l _ (Nat.le_refl _)) (by omega) (ifT (by omega) (ifT (by omega) h))
theorem sweek (l : List UInt8) {K} (h : K (0, (weekL l).1, (weekL l).2.1, (weekL l).2.2.1, 0, ()) (S (weekL l).2.2.2.1) (weekL l).2.2.2.2) : Xrule_week (S l) K := by
  unfold Xrule_week Yrule_week
  refine snumber l 2 (by omega) (sCutPrefix _ _ (snumber _ 1 (by omega) (sCutPrefix _ _ (snumber _ 1 (by omega) ?_))))
  unfold weekL at h
  generalize numberL l 2 = p at *
  generalize cutP 46 p.2.1 = q at *
  generalize numberL q.1 1 = r at *
  generalize cutP 46 r.2.1 = t at *
  generalize numberL t.1 1 = u at *
  obtain ⟨p1, p2, p3⟩ := p
  obtain ⟨q1, q2⟩ := q
  obtain ⟨r1, r2, r3⟩ := r
  obtain ⟨t1, t2⟩ := t
  obtain ⟨u1, u2, u3⟩ := u
  simp only at h ⊢
  cases p3 <;> cases r3 <;> cases u3 <;> cases q2 <;> simpa using h
theorem sdate (l : List UInt8) {K} (h : K ((dateL l).1, (dateL l).2.1, (dateL l).2.2.1, (dateL l).2.2.2.1, 0, ()) (S (dateL l).2.2.2.2.1) (dateL l).2.2.2.2.2) : Xrule_date (S l) K := by
  unfold Xrule_date Yrule_date
  refine sCutPrefix _ _ ?_
  unfold dateL at h
  unfold cutP
  by_cases e : l.head? = some 77
  · rw [if_pos e] at h ⊢
    exact ifT rfl (sweek _ h)
  · rw [if_neg e] at h ⊢
    refine ifF (by simp) (sCutPrefix _ _ ?_)
    unfold cutP
    by_cases e2 : l.head? = some 74
    · rw [if_pos e2] at h ⊢
      exact ifT rfl (snumber _ 3 (by omega) h)
    · rw [if_neg e2] at h ⊢
      exact ifF (by simp) (snumber _ 3 (by omega) h)
theorem date_len (l : List UInt8) : (dateL l).2.2.2.2.1.length ≤ l.length := by
  obtain ⟨j, _, e, _⟩ := dateL_drop l
  rw [e, List.length_drop]; omega
theorem sruleParse (l : List UInt8) (hl : l.length ≤ 140737488351232) {K} (h : K ((parseL l).1, (parseL l).2.1, (parseL l).2.2.1, (parseL l).2.2.2.1, (parseL l).2.2.2.2.1, ()) (S (parseL l).2.2.2.2.2.1) (parseL l).2.2.2.2.2.2) : Xrule_Parse (S l) K := by
  unfold Xrule_Parse Yrule_Parse
  refine sdate _ (sCutPrefix _ _ ?_)
  have hlen := date_len l
  unfold parseL at h
  generalize dateL l = d at *
  obtain ⟨dk, da, db, dc, dt, ok⟩ := d
  simp only at h hlen ⊢
  unfold cutP
  by_cases e : dt.head? = some 47
  · rw [if_pos e] at h ⊢
    cases ok
    · simp only [Bool.false_eq_true, if_false] at h
      exact ifF (by simp) (ifT rfl h)
    · simp only [if_true] at h
      refine ifT rfl (ifT rfl (stime _ (by rw [List.length_tail]; omega) ?_))
      by_cases e2 : (timeL dt.tail).2.2 = true
      · refine ifF (by simp [e2]) (sruleRight _ _ _ _ _ ?_)
        by_cases e3 : rightR dk da db dc (timeL dt.tail).1 = true
        · rw [if_pos ⟨e2, e3⟩] at h
          exact ifF (by simp [e3]) h
        · rw [if_neg (fun h => e3 h.2)] at h
          exact ifT (by simpa using e3) h
      · rw [if_neg (fun h => e2 h.1)] at h
        exact ifT (by simpa using e2) h
  · rw [if_neg e] at h ⊢
    cases ok
    · simp only [Bool.false_eq_true, if_false] at h
      exact ifF (by simp) (ifT rfl h)
    · simp only [if_true] at h
      refine ifT rfl (ifF (by simp) (ifF (by simp) (sruleRight _ _ _ _ _ ?_)))
      by_cases e3 : rightR dk da db dc 7200 = true
      · rw [if_pos e3] at h
        exact ifF (by simp [e3]) h
      · rw [if_neg e3] at h
        exact ifT (by simpa using e3) h
theorem tdivN (v m : Nat) : Int.tdiv (v : Int) (m : Int) = ((v / m : Nat) : Int) := by rw [Int.tdiv_eq_ediv_of_nonneg (by omega)]; rfl
theorem tmodN (v m : Nat) : Int.tmod (v : Int) (m : Int) = ((v % m : Nat) : Int) := by rw [Int.tmod_eq_emod_of_nonneg (by omega)]; rfl
theorem itoaK_len' (n : Int) : (itoaK n).length ≤ 21 := itoaK_len n
theorem spair (m : Nat) (hm : m < 100000) {K} (h : K (S (pairL m))) : Xrule_pair (m : Int) K := by
  unfold Xrule_pair Yrule_pair
  rw [show (10 : Int) = ((10 : Nat) : Int) from rfl, tdivN, tmodN, w64_in (by omega) (by omega)]
  refine sitoa _ (by omega) (by omega) ?_
  have l1 := itoaK_len ((m / 10 : Nat) : Int)
  have l2 := itoaK_len ((m % 10 : Nat) : Int)
  simp only [S_size, S_append, lt, List.length_append, List.length_singleton]
  refine ifF (by omega) (sitoa _ (by omega) (by omega) ?_)
  simp only [S_size, S_append, lt, List.length_append, List.length_singleton]
  refine ifF (by omega) ?_
  unfold pairL at h
  rw [itoaK_nat, itoaK_nat]
  simpa using h
theorem clockB_len (a : Nat) : (clockB a).length ≤ 102 := by
  have l1 := digsN_len 20 (a / 3600)
  have l2 := pairL_len (a / 60 % 60)
  have l3 := pairL_len (a % 60)
  unfold clockB
  rw [List.length_append]
  repeat' split
  all_goals first | omega | (simp only [List.length_append, List.length_nil]; omega)
theorem sclock (x : Int) {K} (h : K (S (clockL x).1) (clockL x).2) : Xrule_Clock x K := by
  unfold Xrule_Clock Yrule_Clock
  refine swithin _ _ _ ?_
  unfold clockL at h
  by_cases e : -604799 ≤ x ∧ x ≤ 604799
  · rw [if_pos e] at h
    refine ifF (by simp [e]) ?_
    simp only [decide_eq_true_eq, bne_iff_ne, ne_eq, lt]
    have key : ∀ (a : Nat), a ≤ 604799 → ((a : Int) = if x < 0 then 0 - x else x) → K (S ((if x < 0 then [45] else []) ++ clockB a)) true := fun a ha he => by
      have : x.natAbs = a := by split at he <;> omega
      rw [this] at h; exact h
    obtain ⟨a, ha⟩ : ∃ a : Nat, (a : Int) = if x < 0 then 0 - x else x := ⟨x.natAbs, by split <;> omega⟩
    have ha' : a ≤ 604799 := by split at ha <;> omega
    have hk := key a ha' ha
    have l1 := digsN_len 20 (a / 3600)
    have l2 := pairL_len (a / 60 % 60)
    have l3 := pairL_len (a % 60)
    have c3600 : (3600 : Int) = ((3600 : Nat) : Int) := rfl
    have c60 : (60 : Int) = ((60 : Nat) : Int) := rfl
    refine ifC (fun hneg => ?_) fun hneg => ?_
    · rw [if_pos hneg] at ha hk
      rw [w64_in (n := 0 - x) (by omega) (by omega), ← ha, c3600, c60, tdivN, tdivN, tmodN, w64_in (by omega) (by omega), w64_in (by omega) (by omega), tmodN]
      refine sitoa _ (by omega) (by omega) ?_
      rw [itoaK_nat]
      simp only [S_size, S_append, List.length_append, List.length_singleton]
      refine ifF (by omega) ?_
      unfold clockB at hk
      refine ifC (fun hs => ?_) fun hs => ?_
      · rw [if_pos (by omega)] at hk
        refine spair _ (by omega) (spair _ (by omega) ?_)
        simp only [S_size, S_append, List.length_append, List.length_singleton]
        refine ifF (by omega) (ifF (by omega) ?_)
        simpa [List.append_assoc] using hk
      · rw [if_neg (by omega)] at hk
        refine ifC (fun hm => ?_) fun hm => ?_
        · rw [if_pos (by omega)] at hk
          refine spair _ (by omega) ?_
          simp only [S_size, S_append, List.length_append, List.length_singleton]
          refine ifF (by omega) ?_
          simpa [List.append_assoc] using hk
        · rw [if_neg (by omega)] at hk
          simpa [List.append_assoc] using hk
    · rw [if_neg hneg] at ha hk
      rw [← ha, c3600, c60, tdivN, tdivN, tmodN, w64_in (by omega) (by omega), w64_in (by omega) (by omega), tmodN]
      refine sitoa _ (by omega) (by omega) ?_
      rw [itoaK_nat]
      simp only [S_size, S_append, List.length_append, List.length_singleton, List.nil_append, List.length_nil]
      refine ifF (by omega) ?_
      unfold clockB at hk
      refine ifC (fun hs => ?_) fun hs => ?_
      · rw [if_pos (by omega)] at hk
        refine spair _ (by omega) (spair _ (by omega) ?_)
        simp only [S_size, S_append, List.length_append, List.length_singleton]
        refine ifF (by omega) (ifF (by omega) ?_)
        simpa [List.append_assoc] using hk
      · rw [if_neg (by omega)] at hk
        refine ifC (fun hm => ?_) fun hm => ?_
        · rw [if_pos (by omega)] at hk
          refine spair _ (by omega) ?_
          simp only [S_size, S_append, List.length_append, List.length_singleton]
          refine ifF (by omega) ?_
          simpa [List.append_assoc] using hk
        · rw [if_neg (by omega)] at hk
          simpa [List.append_assoc] using hk
  · rw [if_neg e] at h
    exact ifT (by rw [decide_eq_false e]; rfl) h
theorem sruleText (k a b c x : Int) {K} (h : K (S (textL k a b c x).1) (textL k a b c x).2) : Xrule_Text (k, a, b, c, x, ()) K := by
  unfold Xrule_Text Yrule_Text
  refine sruleRight _ _ _ _ _ ?_
  unfold textL at h
  by_cases e : rightR k a b c x = true
  · rw [if_pos e] at h
    obtain ⟨hx, hr⟩ := (right_iff k a b c x).1 e
    have l1 := itoaK_len a
    have l2 := itoaK_len b
    have l3 := itoaK_len c
    have l4 := clockL_len x
    unfold headL tailL at h
    simp only [beq_iff_eq, bne_iff_ne, ne_eq, lt]
    refine ifF (by simp [e]) (sitoa _ (by omega) (by omega) ?_)
    refine ifC (fun k0 => ?_) fun k0 => ?_
    · subst k0
      rw [if_pos rfl] at h
      simp only [S_size, S_append, List.length_append, List.length_singleton]
      refine ifF (by omega) (ifF (by omega) (sitoa _ (by omega) (by omega) ?_))
      simp only [S_size, S_append, List.length_append, List.length_singleton]
      refine ifF (by omega) (ifF (by omega) (sitoa _ (by omega) (by omega) ?_))
      simp only [S_size, S_append, List.length_append, List.length_singleton]
      refine ifF (by omega) ?_
      refine ifC (fun hs => ?_) fun hs => ?_
      · rw [if_neg hs] at h
        refine sclock _ ?_
        simp only [S_size, S_append, List.length_append, List.length_singleton]
        refine ifF (by omega) (ifF (by omega) ?_)
        simpa [List.append_assoc] using h
      · rw [if_pos (by omega)] at h
        simpa [List.append_assoc] using h
    · rw [if_neg k0] at h
      refine ifC (fun k1 => ?_) fun k1 => ?_
      · rw [if_pos k1] at h
        simp only [S_size, S_append, List.length_append, List.length_singleton]
        refine ifF (by omega) ?_
        refine ifC (fun hs => ?_) fun hs => ?_
        · rw [if_neg hs] at h
          refine sclock _ ?_
          simp only [S_size, S_append, List.length_append, List.length_singleton]
          refine ifF (by omega) (ifF (by omega) ?_)
          simpa [List.append_assoc] using h
        · rw [if_pos (by omega)] at h
          simpa [List.append_assoc] using h
      · rw [if_neg k1] at h
        refine ifC (fun hs => ?_) fun hs => ?_
        · rw [if_neg hs] at h
          refine sclock _ ?_
          simp only [S_size, S_append, List.length_append, List.length_singleton]
          refine ifF (by omega) (ifF (by omega) ?_)
          simpa [List.append_assoc] using h
        · rw [if_pos (by omega)] at h
          simpa [List.append_assoc] using h
  · rw [if_neg e] at h
    exact ifT (by simpa using e) h
end Go.Proofs.YtcopbcfekmbhlaaGreatDoor
end
section
set_option linter.unusedVariables false
set_option linter.unusedSimpArgs false
namespace Go.Proofs.YtcopbcfekmbhlaaGreatDoor
open Go Go.Proofs.YtcopbcfekmbhlaaGreatDoor.Eng Go.Proofs.YtcopbcfekmbhlaaGreatDoor.Pl
set_option linter.unusedVariables false
set_option linter.unusedSimpArgs false

theorem tmod_leap (y : Int) : (Int.tmod y 4 = 0 ↔ y % 4 = 0) ∧ (Int.tmod y 100 = 0 ↔ y % 100 = 0) ∧ (Int.tmod y 400 = 0 ↔ y % 400 = 0) := by
  refine ⟨?_, ?_, ?_⟩ <;> rw [← Int.dvd_iff_emod_eq_zero, Int.dvd_iff_tmod_eq_zero]
theorem sleap (y : Int) {K} (h : K (leapY y)) : Xday_Leap y K := by
  unfold Xday_Leap Yday_Leap
  obtain ⟨t1, t2, t3⟩ := tmod_leap y
  have fin : ∀ z : Bool, (z = true ↔ (y % 4 = 0 ∧ (y % 100 ≠ 0 ∨ y % 400 = 0))) → K z := fun z hz => cast (congrArg K (Bool.eq_iff_iff.2 ((leapY_iff y).trans hz.symm))) h
  simp only [beq_iff_eq, bne_iff_ne, ne_eq, t1, t2]
  refine ifC (fun h1 => ifC (fun h2 => fin _ ?_) fun h2 => fin _ ?_) fun h1 => fin _ ?_
  · simp; omega
  · rw [beq_iff_eq, t3]; omega
  · simp; omega
theorem slast (y m : Int) {K} (h : K (if 1 ≤ y ∧ y ≤ 9999 ∧ 1 ≤ m ∧ m ≤ 12 then dim y m else 0) (decide (1 ≤ y ∧ y ≤ 9999 ∧ 1 ≤ m ∧ m ≤ 12))) : Xday_Last y m K := by
  unfold Xday_Last Yday_Last
  simp only [decide_eq_true_eq, gt_iff_lt]
  by_cases e : 1 ≤ y ∧ y ≤ 9999 ∧ 1 ≤ m ∧ m ≤ 12
  · rw [if_pos e, decide_eq_true e] at h
    refine ifF (by omega) (ifF (by omega) (ifF (by omega) (ifF (by omega) ?_)))
    rw [w64_in (by omega) (by omega)]
    refine ifT (by omega) ?_
    rcases month_cases e.2.2.1 e.2.2.2 with rfl | rfl | rfl | rfl | rfl | rfl | rfl | rfl | rfl | rfl | rfl | rfl
    all_goals
      simp only [Int.sub_self, Int.reduceSub, Int.reduceToNat, Nat.reduceMul, List.getElem?_cons_zero, List.getElem?_cons_succ, Eng.asInt, if_true, beq_iff_eq, Int.toNat_zero, Nat.zero_mul, beq_self_eq_true, Int.reduceBEq, Bool.false_eq_true, if_false]
      first
      | exact h
      | (refine sleap _ ?_
         unfold dim at h
         rw [if_pos rfl] at h
         refine ifC (fun hl => ?_) fun hl => ?_
         · rw [if_pos hl] at h; exact h
         · rw [if_neg hl] at h; exact h)
  · rw [if_neg e, decide_eq_false e] at h
    exact ifC (fun _ => h) fun _ => ifC (fun _ => h) fun _ => ifC (fun _ => h) fun _ => ifT (by omega) h
theorem ediv_in (a b : Int) (h0 : -9223372036854775808 ≤ a) (h1 : a ≤ 9223372036854775807) (hb : 1 ≤ b) : -9223372036854775808 ≤ a / b ∧ a / b ≤ 9223372036854775807 := by
  constructor
  · have : a ≤ a / b ∨ 0 ≤ a / b := by
      by_cases hn : 0 ≤ a
      · exact .inr (Int.ediv_nonneg hn (by omega))
      · refine .inl (Int.le_ediv_of_mul_le (by omega) ?_)
        have : (b - 1) * a ≤ 0 := Int.mul_nonpos_of_nonneg_of_nonpos (by omega) (by omega)
        rw [Int.sub_mul, Int.mul_comm b a] at this
        omega
    omega
  · have := Int.ediv_le_self (a := a) b
    by_cases hn : 0 ≤ a
    · have := this hn; omega
    · have := Int.ediv_neg_of_neg_of_pos (by omega : a < 0) (by omega : 0 < b); omega
theorem sdiv (a b : Int) (h0 : -9223372036854775808 ≤ a) (h1 : a ≤ 9223372036854775807) (hb : 1 ≤ b) (hb' : b ≤ 9223372036854775807) {K} (h : K (a / b) (a % b) true) : Xnum_Div a b K := by
  unfold Xnum_Div Ynum_Div
  have hm := Int.emod_nonneg a (by omega : b ≠ 0)
  have hm2 := Int.emod_lt_of_pos a (by omega : 0 < b)
  obtain ⟨hq1, hq2⟩ := ediv_in a b h0 h1 hb
  simp only [decide_eq_true_eq, lt]
  refine ifF (by omega) (ifF (by omega) (ifF (by omega) ?_))
  by_cases hn : 0 ≤ a
  · rw [Int.tmod_eq_emod_of_nonneg hn, Int.tdiv_eq_ediv_of_nonneg hn]
    refine ifF (by omega) ?_
    rw [w64_in hq1 hq2]; exact h
  · by_cases hz : a % b = 0
    · have hd : b ∣ a := Int.dvd_of_emod_eq_zero hz
      have e1 : Int.tmod a b = 0 := Int.tmod_eq_zero_of_dvd hd
      have e2 : Int.tdiv a b = a / b := by
        obtain ⟨c, rfl⟩ := hd
        rw [Int.mul_tdiv_cancel_left _ (by omega), Int.mul_ediv_cancel_left _ (by omega)]
      rw [e1, e2]
      refine ifF (by omega) ?_
      rw [w64_in hq1 hq2, ← hz]; exact h
    · have e1 : Int.tmod a b = a % b - b := by
        rw [Int.tmod_eq_emod]
        have : ¬ (0 ≤ a ∨ b ∣ a) := by
          rintro (h | h)
          · exact hn h
          · exact hz (Int.emod_eq_zero_of_dvd h)
        rw [if_neg this]
        have : (b.natAbs : Int) = b := by omega
        omega
      have e2 : Int.tdiv a b = a / b + 1 := by
        have := Int.mul_tdiv_add_tmod a b
        rw [e1] at this
        have hdm := Int.mul_ediv_add_emod a b
        have h2 : b * (Int.tdiv a b) = b * (a / b + 1) := by rw [Int.mul_add]; omega
        exact Int.eq_of_mul_eq_mul_left (by omega) h2
      have hlt : a / b < 0 := Int.ediv_neg_of_neg_of_pos (by omega) (by omega)
      rw [e1, e2]
      refine ifT (by omega) ?_
      rw [w64_in (n := a / b + 1) (by omega) (by omega), w64_in (by omega) (by omega), w64_in (by omega) (by omega), show a / b + 1 - 1 = a / b by omega, show a % b - b + b = a % b by omega]
      exact h
theorem sdiv0 (a b : Int) (hb : b < 1) {K} (h : K 0 0 false) : Xnum_Div a b K := by
  unfold Xnum_Div Ynum_Div
  exact ifT (by simpa using hb) h
theorem sweekday (n : Int) (h0 : -9223372036854775808 ≤ n) (h1 : n ≤ 9223372036854775807) {K} (h : K (wk n)) : Xday_Week n K := by
  unfold Xday_Week Yday_Week
  have ht : -7 < Int.tmod n 7 ∧ Int.tmod n 7 < 7 ∧ (Int.tmod n 7 + 4) % 7 = (n + 4) % 7 := by
    rw [Int.tmod_eq_emod]; split <;> simp <;> omega
  rw [w64_in (by omega) (by omega)]
  refine sdiv _ _ (by omega) (by omega) (by omega) (by omega) ?_
  rw [ht.2.2]; exact h
def okD (y m d : Int) : Prop := 1 ≤ y ∧ y ≤ 9999 ∧ 1 ≤ m ∧ m ≤ 12 ∧ 1 ≤ d ∧ d ≤ dim y m
instance (y m d : Int) : Decidable (okD y m d) := by unfold okD; infer_instance
theorem snum (y m d : Int) (hd0 : -9223372036854775808 ≤ d) (hd1 : d ≤ 9223372036854775807) {K} (h : K (if okD y m d then num y m d else 0) (decide (okD y m d))) : Xday_Number y m d K := by
  unfold Xday_Number Yday_Number
  refine slast _ _ ?_
  simp only [decide_eq_true_eq, gt_iff_lt, lt]
  by_cases e : 1 ≤ y ∧ y ≤ 9999 ∧ 1 ≤ m ∧ m ≤ 12
  · rw [decide_eq_true e, if_pos e]
    refine ifF (by simp) ?_
    by_cases e2 : 1 ≤ d ∧ d ≤ dim y m
    · have ok : okD y m d := ⟨e.1, e.2.1, e.2.2.1, e.2.2.2, e2.1, e2.2⟩
      rw [if_pos ok, decide_eq_true ok] at h
      refine ifF (by omega) (ifF (by omega) ?_)
      have hd := dim_bd y m
      rw [← numP_eq e.2.2.1 e.2.2.2] at h
      unfold numP sy sm at h
      refine ifC (fun hm => ?_) fun hm => ?_
      · rw [if_pos hm, if_pos hm] at h
        rw [w64_in (n := y - 1) (by omega) (by omega)]
        refine sdiv _ _ (by omega) (by omega) (by omega) (by omega) ?_
        have b1 : 0 ≤ (y - 1) % 400 ∧ (y - 1) % 400 ≤ 399 := by omega
        have b2 : 0 ≤ (y - 1) / 400 ∧ (y - 1) / 400 ≤ 25 := by omega
        generalize (y - 1) % 400 = r at *
        generalize (y - 1) / 400 = q at *
        simp (disch := omega) only [w64_in, Int.tdiv_eq_ediv_of_nonneg]
        refine cast (congrArg (fun z => K z true) ?_) h
        omega
      · rw [if_neg hm, if_neg hm] at h
        refine sdiv _ _ (by omega) (by omega) (by omega) (by omega) ?_
        have b1 : 0 ≤ y % 400 ∧ y % 400 ≤ 399 := by omega
        have b2 : 0 ≤ y / 400 ∧ y / 400 ≤ 25 := by omega
        generalize y % 400 = r at *
        generalize y / 400 = q at *
        simp (disch := omega) only [w64_in, Int.tdiv_eq_ediv_of_nonneg]
        refine cast (congrArg (fun z => K z true) ?_) h
        omega
    · have ok : ¬ okD y m d := fun h => e2 h.2.2.2.2
      rw [if_neg ok, decide_eq_false ok] at h
      exact ifC (fun _ => h) fun _ => ifT (by omega) h
  · have ok : ¬ okD y m d := fun h => e ⟨h.1, h.2.1, h.2.2.1, h.2.2.2.1⟩
    rw [if_neg ok, decide_eq_false ok] at h
    rw [decide_eq_false e]
    exact ifT rfl h
theorem sday (n : Int) {K} (h : if -719162 ≤ n ∧ n ≤ 2932896 then K (yearP n) (monP n) (dayP n) true else K 0 0 0 false) : Xday_Date n K := by
  unfold Xday_Date Yday_Date
  simp only [decide_eq_true_eq, gt_iff_lt, lt]
  by_cases e : -719162 ≤ n ∧ n ≤ 2932896
  · rw [if_pos e] at h
    refine ifF (by omega) (ifF (by omega) ?_)
    rw [w64_in (n := n + 719468) (by omega) (by omega)]
    refine sdiv _ _ (by omega) (by omega) (by omega) (by omega) ?_
    have b1 : 0 ≤ (n + 719468) / 146097 ∧ (n + 719468) / 146097 ≤ 25 := by omega
    have b2 : 0 ≤ (n + 719468) % 146097 ∧ (n + 719468) % 146097 ≤ 146096 := by omega
    have hv := doy_bd (by omega : -719162 ≤ n) (by omega)
    unfold yearP monP dayP mon doy yrs era ofE at *
    generalize (n + 719468) / 146097 = q at *
    generalize (n + 719468) % 146097 = o at *
    have hg : 0 ≤ gy o ∧ gy o ≤ 146096 ∧ gy o = o - o / 1460 + o / 36524 - o / 146096 := by unfold gy; omega
    simp (disch := omega) only [w64_in, Int.tdiv_eq_ediv_of_nonneg]
    rw [← hg.2.2]
    have hY : 0 ≤ gy o / 365 ∧ gy o / 365 ≤ 400 := by omega
    have hS : st (gy o / 365) = 365 * (gy o / 365) + gy o / 365 / 4 - gy o / 365 / 100 := rfl
    rw [hS] at hv h
    generalize o - (365 * (gy o / 365) + gy o / 365 / 4 - gy o / 365 / 100) = D at *
    simp (disch := omega) only [w64_in, Int.tdiv_eq_ediv_of_nonneg]
    refine ifC (fun hm => ?_) fun hm => ?_
    · rw [if_pos (by omega), if_pos (by omega)] at h; exact h
    · rw [if_neg (by omega), if_neg (by omega)] at h; exact h
  · rw [if_neg e] at h
    exact ifC (fun _ => h) fun _ => ifT (by omega) h
theorem sruleDay (k a b c x y : Int) {K} (h : K (if (1 ≤ y ∧ y ≤ 9999) ∧ rightR k a b c x = true then ruleDay k a b c y else 0) (decide ((1 ≤ y ∧ y ≤ 9999) ∧ rightR k a b c x = true))) : Xrule_Day (k, a, b, c, x, ()) y K := by
  unfold Xrule_Day Yrule_Day
  refine snum _ _ _ (by omega) (by omega) ?_
  simp only [decide_eq_true_eq, gt_iff_lt, ge_iff_le, lt, beq_iff_eq]
  have h1 : okD y 1 1 ↔ (1 ≤ y ∧ y ≤ 9999) := by unfold okD; have := dim_jan y; omega
  by_cases ey : 1 ≤ y ∧ y ≤ 9999
  · rw [if_pos (h1.2 ey), decide_eq_true (h1.2 ey)]
    refine ifF (by simp) (sruleRight _ _ _ _ _ ?_)
    by_cases e : rightR k a b c x = true
    · rw [if_pos ⟨ey, e⟩, decide_eq_true ⟨ey, e⟩] at h
      refine ifF (by simp [e]) ?_
      obtain ⟨hx, hr⟩ := (right_iff k a b c x).1 e
      have hf := fst_bd ey.1 ey.2
      have hf2 := fst_succ y
      rw [num_first] 
      unfold ruleDay at h
      refine ifC (fun k2 => ?_) fun k2 => ?_
      · rw [if_pos k2] at h
        rw [w64_in (by omega) (by omega)]; exact h
      · rw [if_neg k2] at h
        refine ifC (fun k1 => ?_) fun k1 => ?_
        · rw [if_pos k1] at h
          refine ifC (fun ha => ?_) fun ha => sleap _ ?_
          · rw [if_pos (.inl ha)] at h
            rw [w64_in (n := fst y - 1) (by omega) (by omega), w64_in (by omega) (by omega)]; exact h
          · refine ifC (fun hl => ?_) fun hl => ?_
            · rw [if_pos (.inr (by simpa using hl))] at h
              rw [w64_in (n := fst y - 1) (by omega) (by omega), w64_in (by omega) (by omega)]; exact h
            · rw [if_neg (by rintro (h | h); exact ha h; simp [h] at hl)] at h
              rw [w64_in (by omega) (by omega)]; exact h
        · rw [if_neg k1] at h
          refine snum _ _ _ (by omega) (by omega) (slast _ _ ?_)
          have hok : okD y a 1 := ⟨ey.1, ey.2, by omega, by omega, by omega, by have := dim_bd y a; omega⟩
          have hv : Vld y a 1 := ⟨ey.1, ey.2, by omega, by omega, by omega, by have := dim_bd y a; omega⟩
          have hn := num_range hv
          rw [if_pos hok, if_pos ⟨ey.1, ey.2, by omega, by omega⟩]
          refine sweekday _ (by omega) (by omega) ?_
          have hw : 0 ≤ wk (num y a 1) ∧ wk (num y a 1) < 7 := by unfold wk; omega
          have hd := dim_bd y a
          unfold offW at h
          simp only at h
          generalize num y a 1 = n at *
          generalize wk n = w at *
          generalize dim y a = D at *
          rw [w64_in (n := b - 1) (by omega) (by omega), w64_in (n := 7 * (b - 1)) (by omega) (by omega), w64_in (n := c - w) (by omega) (by omega), w64_in (n := c - w + 7) (by omega) (by omega), Int.tmod_eq_emod_of_nonneg (by omega)]
          rw [w64_in (n := (c - w + 7) % 7 + 7 * (b - 1)) (by omega) (by omega)]
          refine ifC (fun hk => ?_) fun hk => ?_
          · rw [if_pos (by omega)] at h
            rw [w64_in (n := (c - w + 7) % 7 + 7 * (b - 1) - 7) (by omega) (by omega), w64_in (by omega) (by omega)]; exact h
          · rw [if_neg (by omega)] at h
            rw [w64_in (by omega) (by omega)]; exact h
    · rw [if_neg (fun h => e h.2), decide_eq_false (fun h => e h.2)] at h
      exact ifT (by simpa using e) h
  · rw [if_neg (fun h => ey h.1), decide_eq_false (fun h => ey h.1)] at h
    have : ¬ okD y 1 1 := fun h => ey (h1.1 h)
    rw [decide_eq_false this]
    exact ifT rfl h
/-- A rule's second of a year, from the first of 1970 on. -/
def ruleAt (k a b c x y : Int) : Int := ruleDay k a b c y * 86400 + x
theorem sruleAt (k a b c x y : Int) {K} (h : K (if (1 ≤ y ∧ y ≤ 9999) ∧ rightR k a b c x = true then ruleAt k a b c x y else 0) (decide ((1 ≤ y ∧ y ≤ 9999) ∧ rightR k a b c x = true))) : Xrule_At (k, a, b, c, x, ()) y K := by
  unfold Xrule_At Yrule_At
  refine sruleDay _ _ _ _ _ _ ?_
  simp only [decide_eq_true_eq, lt]
  by_cases e : (1 ≤ y ∧ y ≤ 9999) ∧ rightR k a b c x = true
  · rw [if_pos e, decide_eq_true e] at h ⊢
    refine ifF (by simp) ?_
    obtain ⟨hx, hr⟩ := (right_iff k a b c x).1 e.2
    have hf := fst_bd e.1.1 e.1.2
    have hf2 := fst_succ y
    have hb := ruleDay_bd e.1 e.2
    rw [w64_in (n := ruleDay k a b c y * 86400) (by omega) (by omega), w64_in (by omega) (by omega)]
    exact h
  · rw [if_neg e, decide_eq_false e] at h
    rw [decide_eq_false e]
    exact ifT rfl h
theorem sadd (a b : Int) (ha : -9223372036854775808 ≤ a ∧ a ≤ 9223372036854775807) (hb : -9223372036854775808 ≤ b ∧ b ≤ 9223372036854775807) {K}
    (h : if -9223372036854775808 ≤ a + b ∧ a + b ≤ 9223372036854775807 then K (a + b) true else K 0 false) : Xnum_Add a b K := by
  unfold Xnum_Add Ynum_Add
  simp only [lt, bne_iff_ne, ne_eq]
  by_cases e : -9223372036854775808 ≤ a + b ∧ a + b ≤ 9223372036854775807
  · rw [if_pos e] at h
    rw [w64_in e.1 e.2]
    exact ifC (fun h1 => ifC (fun h2 => absurd h1 (by simp; omega)) fun _ => h) fun _ => h
  · rw [if_neg e] at h
    have hw : w64 (a + b) = if a + b < 0 then a + b + 18446744073709551616 else a + b - 18446744073709551616 := by
      unfold w64 IntKind.wrap
      simp [IntKind.bits, IntKind.signed]
      split <;> omega
    rw [hw]
    refine ifT ?_ (ifT (by omega) h)
    split <;> simp <;> omega
end Go.Proofs.YtcopbcfekmbhlaaGreatDoor
end
section
set_option linter.unusedVariables false
set_option linter.unusedSimpArgs false
namespace Go.Proofs.YtcopbcfekmbhlaaGreatDoor
open Go Go.Proofs.YtcopbcfekmbhlaaGreatDoor.Eng Go.Proofs.YtcopbcfekmbhlaaGreatDoor.Pl
set_option linter.unusedVariables false
set_option linter.unusedSimpArgs false

abbrev tupRu (r : Ru) : Int × Int × Int × Int × Int × Unit := (r.k, r.a, r.b, r.c, r.x, ())
abbrev tupFt (f : Ft) : Int × Bool × ByteArray × Int × Bool × ByteArray × Bool × Int × Int × Int × Int × Int × Int × Int × Int × Int × Int × Unit :=
  (f.so, f.sd, S f.sa, f.wo, f.wd, S f.wa, f.has, f.fr.k, f.fr.a, f.fr.b, f.fr.c, f.fr.x, f.to.k, f.to.a, f.to.b, f.to.c, f.to.x, ())
theorem tupFt_all (a : Int × Bool × ByteArray × Int × Bool × ByteArray × Bool × Int × Int × Int × Int × Int × Int × Int × Int × Int × Int × Unit) : ∃ f, a = tupFt f := by
  obtain ⟨a1, a2, a3, a4, a5, a6, a7, a8, a9, a10, a11, a12, a13, a14, a15, a16, a17, _⟩ := a
  exact ⟨⟨a1, a2, a3.data.toList, a4, a5, a6.data.toList, a7, ⟨a8, a9, a10, a11, a12⟩, ⟨a13, a14, a15, a16, a17⟩⟩, by simp [tupFt, ← of_S]⟩
theorem skind (o : Int) (d : Bool) (l : List UInt8) (w : Bool) {K} (h : K (kindR o d l w)) : Xfoot_kind (o, d, S l, ()) w K := by
  unfold Xfoot_kind Yfoot_kind
  refine sabbr l ?_
  unfold kindR at h
  simp only [ge_iff_le, decide_eq_true_eq, beq_iff_eq]
  by_cases e1 : abbrL l = true
  · refine ifT e1 ?_
    by_cases e2 : d = w
    · refine ifT e2 ?_
      simp only [e1, e2, beq_self_eq_true, Bool.true_and] at h
      refine ifC (fun e3 => cast (congrArg K ?_) h) fun e3 => cast (congrArg K ?_) h
      · simp [e3]
      · simp [e3]
    · exact ifF e2 (cast (congrArg K (by simp [e2])) h)
  · exact ifF e1 (cast (congrArg K (by simp [e1])) h)
theorem sfootRight (f : Ft) {K} (h : K f.ok) : Xfoot_Right (tupFt f) K := by
  unfold Xfoot_Right Yfoot_Right
  refine skind _ _ _ _ ?_
  unfold Ft.ok at h
  by_cases e1 : kindR f.so f.sd f.sa false = true
  · refine ifF (by simp [e1]) ?_
    rw [e1, Bool.true_and] at h
    refine ifC (fun e2 => ?_) fun e2 => ?_
    · rw [if_pos e2] at h
      refine skind _ _ _ _ ?_
      by_cases e3 : kindR f.wo f.wd f.wa true = true
      · refine ifT e3 (sruleRight _ _ _ _ _ ?_)
        rw [e3, Bool.true_and] at h
        by_cases e4 : f.fr.ok = true
        · refine ifT e4 (sruleRight _ _ _ _ _ ?_)
          rw [e4, Bool.true_and] at h
          exact h
        · exact ifF e4 (cast (congrArg K (by simp [e4])) h)
      · exact ifF e3 (cast (congrArg K (by simp [e3])) h)
    · rw [if_neg e2] at h
      have key : ∀ z : Bool, (z = true ↔ f.bare) → K z := fun z hz => cast (congrArg K (Bool.eq_iff_iff.2 (decide_eq_true_iff.trans hz.symm))) h
      have e2' : f.has = false := by simpa using e2
      simp only [lt]
      refine key _ ?_
      unfold Ft.bare
      simp [e2', S_toList]
      constructor <;> intro hh <;> simp [hh]
  · exact ifT (by simpa using e1) (cast (congrArg K (by simp [e1])) h)
theorem splain (n : Int) {K} (h : K (decide ((97 ≤ n ∧ n ≤ 122) ∨ (65 ≤ n ∧ n ≤ 90)))) : Xfoot_plain n K := by
  unfold Xfoot_plain Yfoot_plain
  simp only [decide_eq_true_eq, ge_iff_le]
  repeat' (first | refine ifT (by omega) ?_ | refine ifF (by omega) ?_ | refine ifC (fun _ => ?_) (fun _ => ?_))
  all_goals (refine cast (congrArg K ?_) h; apply Bool.eq_iff_iff.2; simp only [decide_eq_true_eq, Bool.false_eq_true, true_iff, iff_true, iff_false]; omega)
theorem letQ (c : UInt8) : (!decide ((97 ≤ (c.toNat : Int) ∧ (c.toNat : Int) ≤ 122) ∨ (65 ≤ (c.toNat : Int) ∧ (c.toNat : Int) ≤ 90))) = !letC c := by
  unfold letC; congr 1; apply Bool.eq_iff_iff.2; simp; omega
theorem letH (c : UInt8) (hc : 128 ≤ c.toNat) : (!letC c) = true := by
  unfold letC; simp; omega
theorem snamed (l : List UInt8) (hl : l.length ≤ 1000) {K} (h : K (S (nameT l))) : Xfoot_named (S l) K := by
  unfold Xfoot_named Yfoot_named Xstrings_ContainsFunc_1 Ystrings_ContainsFunc_1 Xstrings_IndexFunc_2 Ystrings_IndexFunc_2 Xstrings_indexFunc_2
  have sn : ∀ (n : Int) {K : Bool → Prop}, K (!decide ((97 ≤ n ∧ n ≤ 122) ∨ (65 ≤ n ∧ n ≤ 90))) → Xfoot_named_1 n K := fun n K h => by
    unfold Xfoot_named_1 Yfoot_named_1; exact splain n h
  refine sIndexFunc (fun c => !letC c) (fun c K hc h => sn _ (cast (congrArg K (letQ c).symm) h)) (fun n K hn h => sn _ (cast (congrArg K ?_) h)) letH l ?_
  · symm; simp; omega
  · unfold nameT at h
    rw [nl_any] at h
    simp only [S_size, S_append, List.length_append, List.length_singleton, lt]
    by_cases e : nl (fun c => !letC c) l < l.length
    · rw [decide_eq_true e, if_pos rfl] at h
      rw [if_pos e]
      refine ifT (by simp) (ifF (by omega) (ifF (by omega) ?_))
      simpa using h
    · rw [decide_eq_false e, if_neg (by simp)] at h
      rw [if_neg e]
      exact ifF (by simp) h
theorem sname (l : List UInt8) (hl : l.length ≤ 140737488351232) {a1 a2 a3 a4 a5 a6 a7 a8 a9 a10 a11 a12 a13 a14 a15 a16 a17} {K} (h : K (S (nameP l).1) (nameP l).2.1 (S (nameP l).2.2) a1 a2 a3 a4 a5 a6 a7 a8 a9 a10 a11 a12 a13 a14 a15 a16 a17) : Xfoot_reader_name (S l) a1 a2 a3 a4 a5 a6 a7 a8 a9 a10 a11 a12 a13 a14 a15 a16 a17 K := by
  unfold Xfoot_reader_name Yfoot_reader_name
  refine sCutPrefix _ _ ?_
  unfold nameP at h
  unfold cutP
  by_cases e : l.head? = some 60
  · rw [if_pos e] at h ⊢
    refine ifT rfl (sCut _ _ (by rw [List.length_tail]; omega) ?_)
    generalize splitL 62 l.tail = p at *
    obtain ⟨p1, p2, p3⟩ := p
    simp only at h ⊢
    cases p3
    · simp only [Bool.false_and] at h
      exact ifF (by simp) h
    · simp only [Bool.true_and] at h
      exact ifT rfl (sabbr _ h)
  · rw [if_neg e] at h ⊢
    refine ifF (by simp) ?_
    unfold Xstrings_IndexFunc_1 Ystrings_IndexFunc_1 Xstrings_indexFunc_1
    have sn : ∀ (n : Int) {K : Bool → Prop}, K (!decide ((97 ≤ n ∧ n ≤ 122) ∨ (65 ≤ n ∧ n ≤ 90))) → Xfoot_reader_name_1 n K := fun n K h => by
      unfold Xfoot_reader_name_1 Yfoot_reader_name_1; exact splain n h
    refine sIndexFunc (fun c => !letC c) (fun c K hc h => sn _ (cast (congrArg K (letQ c).symm) h)) (fun n K hn h => sn _ (cast (congrArg K ?_) h)) letH l ?_
    · symm; simp; omega
    · have hn := nl_le (fun c => !letC c) l
      generalize nl (fun c => !letC c) l = k at *
      simp only [S_size, S_extract, decide_eq_true_eq, List.drop_zero, Nat.sub_zero, take_all, Int.toNat_natCast]
      by_cases e2 : k < l.length
      · rw [if_pos e2]
        simp only [Int.toNat_natCast, take_all, List.drop_zero, Nat.sub_zero]
        exact ifF (by omega) (ifT (by omega) (ifT (by omega) (ifT (by omega) (ifT (by omega) (sabbr _ h)))))
      · rw [if_neg e2]
        have : k = l.length := by omega
        subst this
        refine ifT (by omega) (ifT (by omega) (ifT (by omega) (ifT (by omega) (sabbr _ ?_))))
        exact h
theorem name_len (l : List UInt8) : (nameP l).2.2.length ≤ l.length ∧ (nameP l).1.length ≤ l.length := by
  unfold nameP splitL
  repeat' split
  all_goals simp
  all_goals omega
theorem time_bd (l : List UInt8) : -604799 ≤ (timeL l).1 ∧ (timeL l).1 ≤ 604799 ∧ (timeL l).2.1.length ≤ l.length := by
  obtain ⟨j, _, e, _, h1, h2, _⟩ := time_drop l
  rw [e, List.length_drop]; exact ⟨h1, h2, by omega⟩
theorem susual (l : List UInt8) (hl : l.length ≤ 140737488351232) {a1 a2 a3 a4 a5 a6 a7 a8 a9 a10 a11 a12 a13 a14 a15 a16 a17} {K} (h : K (usualP l).ok (S (usualP l).rest) (usualP l).o false (S (usualP l).a) a4 a5 a6 a7 a8 a9 a10 a11 a12 a13 a14 a15 a16 a17) : Xfoot_reader_usual (S l) a1 a2 a3 a4 a5 a6 a7 a8 a9 a10 a11 a12 a13 a14 a15 a16 a17 K := by
  unfold Xfoot_reader_usual Yfoot_reader_usual
  have hn := name_len l
  refine sname l hl (stime _ (by omega) ?_)
  have ht := time_bd (nameP l).2.2
  rw [w64_in (by omega) (by omega), Int.zero_sub]
  unfold usualP at h
  simp only at h
  by_cases e : (nameP l).2.1 = true
  · rw [e, Bool.true_and] at h
    exact ifT e h
  · rw [Bool.eq_false_iff.2 e, Bool.false_and] at h
    exact ifF e h
theorem ssummer (l : List UInt8) (hl : l.length ≤ 140737488351232) {a1 a2 a3 a4 a5 a6 a7 a8 a9 a10 a11 a12 a13 a14 a15 a16 a17} (ha : -604799 ≤ a1 ∧ a1 ≤ 604799) {K} (h : K (summerP a1 l).ok (S (summerP a1 l).rest) a1 a2 a3 (summerP a1 l).o true (S (summerP a1 l).a) true a8 a9 a10 a11 a12 a13 a14 a15 a16 a17) : Xfoot_reader_summer (S l) a1 a2 a3 a4 a5 a6 a7 a8 a9 a10 a11 a12 a13 a14 a15 a16 a17 K := by
  unfold Xfoot_reader_summer Yfoot_reader_summer
  have hn := name_len l
  refine sname l hl (stime _ (by omega) ?_)
  have ht := time_bd (nameP l).2.2
  rw [w64_in (n := 0 - _) (by omega) (by omega), Int.zero_sub, w64_in (by omega) (by omega)]
  unfold summerP at h
  by_cases e : (timeL (nameP l).2.2).2.2 = true
  · rw [if_pos e] at h
    exact ifT e h
  · rw [if_neg e] at h
    exact ifF e h
theorem cut_len (c : UInt8) (l : List UInt8) : (cutP c l).1.length ≤ l.length := by
  unfold cutP; split
  · rw [List.length_tail]; omega
  · exact Nat.le_refl _
theorem srule (l : List UInt8) (hl : l.length ≤ 140737488351232) {a1 a2 a3 a4 a5 a6 a7 a8 a9 a10 a11 a12 a13 a14 a15 a16 a17} {K} (h : K (ruleP l).ok (S (ruleP l).rest) a1 a2 a3 a4 a5 a6 a7 (ruleP l).r.k (ruleP l).r.a (ruleP l).r.b (ruleP l).r.c (ruleP l).r.x a13 a14 a15 a16 a17) : Xfoot_reader_rule (S l) a1 a2 a3 a4 a5 a6 a7 a8 a9 a10 a11 a12 a13 a14 a15 a16 a17 K := by
  unfold Xfoot_reader_rule Yfoot_reader_rule
  have hc := cut_len 44 l
  refine sCutPrefix _ _ (sruleParse _ (by omega) ?_)
  unfold ruleP at h
  simp only at h
  by_cases e : (parseL (cutP 44 l).1).2.2.2.2.2.2 = true
  · rw [e, Bool.true_and] at h
    exact ifT e h
  · rw [Bool.eq_false_iff.2 e, Bool.false_and] at h
    exact ifF e h
theorem srule1 (l : List UInt8) (hl : l.length ≤ 140737488351232) {a1 a2 a3 a4 a5 a6 a7 a8 a9 a10 a11 a12 a13 a14 a15 a16 a17} {K} (h : K (ruleP l).ok (S (ruleP l).rest) a1 a2 a3 a4 a5 a6 a7 a8 a9 a10 a11 a12 (ruleP l).r.k (ruleP l).r.a (ruleP l).r.b (ruleP l).r.c (ruleP l).r.x) : Xfoot_reader_rule_1 (S l) a1 a2 a3 a4 a5 a6 a7 a8 a9 a10 a11 a12 a13 a14 a15 a16 a17 K := by
  unfold Xfoot_reader_rule_1 Yfoot_reader_rule_1
  have hc := cut_len 44 l
  refine sCutPrefix _ _ (sruleParse _ (by omega) ?_)
  unfold ruleP at h
  simp only at h
  by_cases e : (parseL (cutP 44 l).1).2.2.2.2.2.2 = true
  · rw [e, Bool.true_and] at h
    exact ifT e h
  · rw [Bool.eq_false_iff.2 e, Bool.false_and] at h
    exact ifF e h
theorem rule_len (l : List UInt8) : (ruleP l).rest.length ≤ l.length := by
  have hc := cut_len 44 l
  unfold ruleP
  simp only
  cases e : (parseL (cutP 44 l).1).2.2.2.2.2.2
  · rw [parse_bad _ e]; exact hc
  · obtain ⟨_, j, _, h1, h2⟩ := parse_good _ e
    rw [h2, List.length_drop]; omega
theorem usual_len (l : List UInt8) : (usualP l).rest.length ≤ l.length ∧ -604799 ≤ (usualP l).o ∧ (usualP l).o ≤ 604799 := by
  have hn := name_len l
  have ht := time_bd (nameP l).2.2
  unfold usualP
  simp only
  omega
theorem summer_len (so : Int) (l : List UInt8) : (summerP so l).rest.length ≤ l.length := by
  have hn := name_len l
  have ht := time_bd (nameP l).2.2
  unfold summerP
  split <;> simp only <;> omega
theorem sfootParse (l : List UInt8) (hl : l.length ≤ 140737488351232) {K} (h : K (tupFt (Ft.parse l).1) (Ft.parse l).2) : Xfoot_Parse (S l) K := by
  unfold Xfoot_Parse Yfoot_Parse
  have hu := usual_len l
  have hs := summer_len (usualP l).o (usualP l).rest
  have hr := rule_len (summerP (usualP l).o (usualP l).rest).rest
  refine susual l hl ?_
  unfold Ft.parse at h
  by_cases e1 : (usualP l).ok = true
  · rw [if_pos e1] at h
    refine ifF (by simp [e1]) ?_
    simp only [S_toList]
    by_cases e2 : (usualP l).rest = []
    · rw [if_pos e2] at h
      refine ifT (by simp [e2]) (ifF (by simp [e2]) (sfootRight ⟨(usualP l).o, false, (usualP l).a, 0, false, [], false, .z, .z⟩ ?_))
      unfold Ft.chk at h
      refine ifC (fun e3 => ?_) fun e3 => ?_
      · rw [if_neg (by simpa using e3)] at h; exact h
      · rw [if_pos (by simpa using e3)] at h; exact h
    · rw [if_neg e2] at h
      refine ifF (by simp [e2]) (ssummer _ (by omega) (by omega) ?_)
      by_cases e3 : (summerP (usualP l).o (usualP l).rest).ok = true
      · rw [if_pos e3] at h
        refine ifF (by simp [e3]) ?_
        unfold Xfoot_reader_from Yfoot_reader_from
        refine srule _ (by omega) ?_
        by_cases e4 : (ruleP (summerP (usualP l).o (usualP l).rest).rest).ok = true
        · rw [if_pos e4] at h
          refine ifF (by simp [e4]) ?_
          unfold Xfoot_reader_to Yfoot_reader_to
          refine srule1 _ (by omega) ?_
          by_cases e5 : (ruleP (ruleP (summerP (usualP l).o (usualP l).rest).rest).rest).ok = true
          · rw [if_pos e5] at h
            refine ifF (by simp [e5]) ?_
            simp only [S_toList]
            by_cases e6 : (ruleP (ruleP (summerP (usualP l).o (usualP l).rest).rest).rest).rest = []
            · rw [if_pos e6] at h
              refine ifF (by simp [e6]) (sfootRight ⟨(usualP l).o, false, (usualP l).a, (summerP (usualP l).o (usualP l).rest).o, true, (summerP (usualP l).o (usualP l).rest).a, true, (ruleP (summerP (usualP l).o (usualP l).rest).rest).r, (ruleP (ruleP (summerP (usualP l).o (usualP l).rest).rest).rest).r⟩ ?_)
              unfold Ft.chk at h
              refine ifC (fun e3 => ?_) fun e3 => ?_
              · rw [if_neg (by simpa using e3)] at h; exact h
              · rw [if_pos (by simpa using e3)] at h; exact h
            · rw [if_neg e6] at h
              exact ifT (by simp [e6]) h
          · rw [if_neg e5] at h
            exact ifT (by simpa using e5) h
        · rw [if_neg e4] at h
          exact ifT (by simpa using e4) h
      · rw [if_neg e3] at h
        exact ifT (by simpa using e3) h
  · rw [if_neg e1] at h
    exact ifT (by simpa using e1) h
end Go.Proofs.YtcopbcfekmbhlaaGreatDoor
end
section
set_option linter.unusedVariables false
set_option linter.unusedSimpArgs false
namespace Go.Proofs.YtcopbcfekmbhlaaGreatDoor
open Go Go.Proofs.YtcopbcfekmbhlaaGreatDoor.Eng Go.Proofs.YtcopbcfekmbhlaaGreatDoor.Pl
set_option linter.unusedVariables false
set_option linter.unusedSimpArgs false

theorem kind_iff {o : Int} {d : Bool} {l : List UInt8} {w : Bool} : kindR o d l w = true ↔ abbrL l = true ∧ d = w ∧ -89999 ≤ o ∧ o ≤ 89999 := by
  unfold kindR; simp [and_assoc]
theorem abbr_len {l : List UInt8} (h : abbrL l = true) : 3 ≤ l.length ∧ l.length ≤ 16 := by
  unfold abbrL at h; simp at h; omega
theorem nameT_len {l : List UInt8} : (nameT l).length ≤ l.length + 2 := by
  unfold nameT; split
  · simp
  · omega
theorem sfootText (f : Ft) {K} (h : K (S f.text.1) f.text.2) : Xfoot_Text (tupFt f) K := by
  unfold Xfoot_Text Yfoot_Text
  refine sfootRight f ?_
  unfold Ft.text at h
  by_cases e : f.ok = true
  · rw [if_pos e] at h
    refine ifF (by simp [e]) ?_
    unfold Ft.ok at e
    rw [Bool.and_eq_true] at e
    obtain ⟨e1, e2⟩ := e
    obtain ⟨k1, k2, k3, k4⟩ := kind_iff.1 e1
    have l1 := abbr_len k1
    have l2 := clockL_len (-f.so)
    have l3 := nameT_len (l := f.sa)
    simp only [Int.zero_sub]
    rw [w64_in (n := -f.so) (by omega) (by omega)]
    refine sclock _ (snamed _ (by omega) ?_)
    unfold Ft.txt at h
    simp only [S_size, S_append, List.length_append, lt]
    refine ifF (by omega) ?_
    by_cases eh : f.has = true
    · rw [if_pos eh] at h e2
      rw [Bool.and_eq_true, Bool.and_eq_true] at e2
      obtain ⟨⟨e2, e3⟩, e4⟩ := e2
      obtain ⟨j1, j2, j3, j4⟩ := kind_iff.1 e2
      have m1 := abbr_len j1
      have m2 := clockL_len (-f.wo)
      have m3 := nameT_len (l := f.wa)
      have m4 := textL_len f.fr.k f.fr.a f.fr.b f.fr.c f.fr.x
      have m5 := textL_len f.to.k f.to.a f.to.b f.to.c f.to.x
      refine ifF (by simp [eh]) (snamed _ (by omega) ?_)
      simp only [S_size, S_append, List.length_append, lt, bne_iff_ne, ne_eq, List.length_singleton]
      refine ifF (by omega) ?_
      rw [w64_in (n := f.wo - f.so) (by omega) (by omega), w64_in (n := -f.wo) (by omega) (by omega)]
      unfold Ru.txt at h
      by_cases es : f.wo - f.so = 3600
      · rw [if_neg (fun h => h es)] at h
        refine ifF (fun h => h es) (sruleText _ _ _ _ _ (sruleText _ _ _ _ _ ?_))
        simp only [S_size, S_append, List.length_append, lt, List.length_singleton]
        refine ifF (by omega) (ifF (by omega) (ifF (by omega) (ifF (by omega) ?_)))
        simpa [List.append_assoc] using h
      · rw [if_pos es] at h
        refine ifT es (sclock _ ?_)
        simp only [S_size, S_append, List.length_append, lt, List.length_singleton]
        refine ifF (by omega) (sruleText _ _ _ _ _ (sruleText _ _ _ _ _ ?_))
        simp only [S_size, S_append, List.length_append, lt, List.length_singleton]
        refine ifF (by omega) (ifF (by omega) (ifF (by omega) (ifF (by omega) ?_)))
        simpa [List.append_assoc] using h
    · rw [if_neg eh] at h
      refine ifT (by simpa using eh) ?_
      simpa using h
  · rw [if_neg e] at h
    exact ifT (by simpa using e) h
theorem sruleAtR (r : Ru) (y : Int) {K} (h : if (1 ≤ y ∧ y ≤ 9999) ∧ r.ok = true then K (r.at y) true else K 0 false) : Xrule_At (tupRu r) y K := by
  refine sruleAt _ _ _ _ _ _ ?_
  by_cases e : (1 ≤ y ∧ y ≤ 9999) ∧ rightR r.k r.a r.b r.c r.x = true
  · have e' : (1 ≤ y ∧ y ≤ 9999) ∧ r.ok = true := e
    rw [if_pos e'] at h
    rw [if_pos e, decide_eq_true e]; exact h
  · have e' : ¬ ((1 ≤ y ∧ y ≤ 9999) ∧ r.ok = true) := e
    rw [if_neg e'] at h
    rw [if_neg e, decide_eq_false e]; exact h
theorem sfootSpan (f : Ft) (y : Int) {K} (h : if f.spans y then K (f.from' y) (f.to' y) true else K 0 0 false) : Xfoot_Span (tupFt f) y K := by
  unfold Xfoot_Span Yfoot_Span
  by_cases eh : f.has = true
  · refine ifF (by simp [eh]) (sfootRight f ?_)
    by_cases e : f.ok = true
    · refine ifF (by simp [e]) (sruleAtR f.fr y ?_)
      have e' := e
      unfold Ft.ok at e'
      rw [if_pos eh, Bool.and_eq_true, Bool.and_eq_true, Bool.and_eq_true] at e'
      obtain ⟨e0, ⟨e1, e2⟩, e3⟩ := e'
      obtain ⟨k1, k2, k3, k4⟩ := kind_iff.1 e0
      obtain ⟨j1, j2, j3, j4⟩ := kind_iff.1 e1
      have r1 := (right_iff _ _ _ _ _).1 e2
      have r2 := (right_iff _ _ _ _ _).1 e3
      by_cases ey : 1 ≤ y ∧ y ≤ 9999
      · have hsp : f.spans y := ⟨eh, e, ey.1, ey.2⟩
        rw [if_pos hsp] at h
        have d1 := ruleDay_bd ey e2
        have d2 := ruleDay_bd ey e3
        have hf := fst_bd ey.1 ey.2
        have hf2 := fst_succ y
        refine ifT ⟨ey, e2⟩ (ifF (by simp) (sruleAtR f.to y (ifT ⟨ey, e3⟩ ?_)))
        unfold Ft.from' Ft.to' at h
        show K (w64 (f.fr.at y - f.so)) (w64 (f.to.at y - f.wo)) true
        unfold Ru.at at h ⊢
        rw [w64_in (by omega) (by omega), w64_in (by omega) (by omega)]
        exact h
      · rw [if_neg (fun h => ey ⟨h.2.2.1, h.2.2.2⟩)] at h
        exact ifF (fun h => ey h.1) (ifT rfl h)
    · rw [if_neg (fun h => e h.2.1)] at h
      exact ifT (by simpa using e) h
  · rw [if_neg (fun h => eh h.1)] at h
    exact ifT (by simpa using eh) h
theorem syear (n : Int) (h0 : -9223372036854775808 ≤ n) (h1 : n ≤ 9223372036854775807) {K} (h : if inDays n then K (yearP (n / 86400)) true else K 0 false) : Xfoot_year n K := by
  rw [Xfoot_year, Yfoot_year]
  refine sdiv _ _ h0 h1 (by omega) (by omega) (sday _ ?_)
  by_cases e : inDays n
  · rw [if_pos e] at h
    exact ifT e h
  · rw [if_neg e] at h
    exact ifF e h
theorem sfootLookup (f : Ft) (p : Int) (hp : -9223372036854775808 ≤ p ∧ p ≤ 9223372036854775807) (ho : -9223372036854775808 ≤ f.so ∧ f.so ≤ 9223372036854775807) {K} (h : if f.sum p then K (f.wo, f.wd, S f.wa, ()) else K (f.so, f.sd, S f.sa, ())) : Xfoot_Lookup (tupFt f) p K := by
  unfold Xfoot_Lookup Yfoot_Lookup
  refine sadd _ _ hp ho ?_
  have std : ¬ f.sum p → K (f.so, f.sd, S f.sa, ()) := fun hn => by rw [if_neg hn] at h; exact h
  have dst : f.sum p → K (f.wo, f.wd, S f.wa, ()) := fun hn => by rw [if_pos hn] at h; exact h
  by_cases e : -9223372036854775808 ≤ p + f.so ∧ p + f.so ≤ 9223372036854775807
  · refine ifT e (syear _ e.1 e.2 ?_)
    by_cases ed : inDays (p + f.so)
    · refine ifT ed (sfootSpan f _ ?_)
      by_cases es : f.spans (yearP ((p + f.so) / 86400))
      · refine ifT es (ifF (by simp) (ifF (by simp) (ifF (by simp) ?_)))
        have hs : f.sum p ↔ ((f.from' (yearP ((p + f.so) / 86400)) ≤ p ∧ p < f.to' (yearP ((p + f.so) / 86400))) ∨ (f.to' (yearP ((p + f.so) / 86400)) ≤ f.from' (yearP ((p + f.so) / 86400)) ∧ (f.from' (yearP ((p + f.so) / 86400)) ≤ p ∨ p < f.to' (yearP ((p + f.so) / 86400))))) :=
          ⟨fun h => h.2.2, fun h => ⟨ed, es, h⟩⟩
        simp only [decide_eq_true_eq, ge_iff_le]
        generalize f.from' (yearP ((p + f.so) / 86400)) = a at *
        generalize f.to' (yearP ((p + f.so) / 86400)) = b at *
        refine ifC (fun h1 => ifC (fun h2 => dst (hs.2 (by omega))) fun h2 => ifC (fun h3 => ifC (fun h4 => dst (hs.2 (by omega))) fun h4 => absurd h1 h4) fun h3 => std (fun h => by have := hs.1 h; omega))
          fun h1 => ifC (fun h3 => ifC (fun h4 => absurd h4 h1) fun h4 => ifC (fun h5 => dst (hs.2 (by omega))) fun h5 => std (fun h => by have := hs.1 h; omega)) fun h3 => std (fun h => by have := hs.1 h; omega)
      · exact ifF es (ifF (by simp) (ifF (by simp) (ifT (by simp) (std fun h => es h.2.1))))
    · refine ifF ed (sfootSpan f _ ?_)
      have : ¬ f.spans 0 := fun h => by have := h.2.2.1; omega
      exact ifF this (ifF (by simp) (ifT (by simp) (std fun h => ed h.1)))
  · refine ifF e (syear 0 (by omega) (by omega) ?_)
    have h0 : inDays 0 := by unfold inDays; omega
    refine ifT h0 (sfootSpan f _ ?_)
    have out : ¬ f.sum p := fun h => e (by have := h.1; unfold inDays at this; omega)
    refine ifC (fun _ => ifT (by simp) (std out)) fun _ => ifT (by simp) (std out)
set_option maxRecDepth 100000 in
theorem ssmall {K} (h : K true) : Xepactlaw18_small K := by
  rw [Xepactlaw18_small, Yepactlaw18_small]
  refine sfootParse [69, 83, 84, 53, 69, 68, 84, 44, 77, 51, 46, 50, 46, 48, 44, 77, 49, 49, 46, 49, 46, 48] (by simp) ?_
  refine sfootText ⟨-18000, false, [69, 83, 84], -14400, true, [69, 68, 84], true, ⟨0, 3, 2, 0, 7200⟩, ⟨0, 11, 1, 0, 7200⟩⟩ ?_
  refine sfootParse [60, 43, 48, 53, 51, 48, 62, 45, 53, 58, 51, 48] (by simp) ?_
  refine sfootParse [69, 83, 84, 53, 69, 68, 84] (by simp) ?_
  refine sfootParse [69, 83, 84] (by simp) ?_
  refine sfootParse [69, 83, 84, 50, 53] (by simp) ?_
  refine sfootParse [60, 45, 48, 51, 62, 51, 60, 45, 48, 50, 62, 44, 77, 51, 46, 53, 46, 48, 47, 45, 50, 44, 77, 49, 48, 46, 53, 46, 48, 47, 45, 49] (by simp) ?_
  refine sfootSpan ⟨-18000, false, [69, 83, 84], -14400, true, [69, 68, 84], true, ⟨0, 3, 2, 0, 7200⟩, ⟨0, 11, 1, 0, 7200⟩⟩ 2024 (ifT (by decide +kernel) ?_)
  have lk : ∀ (f : Ft) (p : Int) {K}, (-9223372036854775808 ≤ p ∧ p ≤ 9223372036854775807) → (-9223372036854775808 ≤ f.so ∧ f.so ≤ 9223372036854775807) → (if f.sum p then K (f.wo, f.wd, S f.wa, ()) else K (f.so, f.sd, S f.sa, ())) → Xfoot_Lookup (tupFt f) p K := fun f p K h1 h2 h3 => sfootLookup f p h1 h2 h3
  simp only [S_toList, lt]
  have g1 : ∀ {p : Int} {K}, (-9223372036854775808 ≤ p ∧ p ≤ 9223372036854775807) → K (-18000, false, S [69, 83, 84], ()) → decide (Ft.sum ⟨-18000, false, [69, 83, 84], -14400, true, [69, 68, 84], true, ⟨0, 3, 2, 0, 7200⟩, ⟨0, 11, 1, 0, 7200⟩⟩ p) = false →
      Xfoot_Lookup (tupFt ⟨-18000, false, [69, 83, 84], -14400, true, [69, 68, 84], true, ⟨0, 3, 2, 0, 7200⟩, ⟨0, 11, 1, 0, 7200⟩⟩) p K := fun hp hK hd => sfootLookup _ _ hp (by decide) (ifF (of_decide_eq_false hd) hK)
  have g2 : ∀ {p : Int} {K}, (-9223372036854775808 ≤ p ∧ p ≤ 9223372036854775807) → K (-14400, true, S [69, 68, 84], ()) → decide (Ft.sum ⟨-18000, false, [69, 83, 84], -14400, true, [69, 68, 84], true, ⟨0, 3, 2, 0, 7200⟩, ⟨0, 11, 1, 0, 7200⟩⟩ p) = true →
      Xfoot_Lookup (tupFt ⟨-18000, false, [69, 83, 84], -14400, true, [69, 68, 84], true, ⟨0, 3, 2, 0, 7200⟩, ⟨0, 11, 1, 0, 7200⟩⟩) p K := fun hp hK hd => sfootLookup _ _ hp (by decide) (ifT (of_decide_eq_true hd) hK)
  have g3 : ∀ {p : Int} {K}, (-9223372036854775808 ≤ p ∧ p ≤ 9223372036854775807) → K (-14400, true, S [69, 68, 84], ()) → decide (Ft.sum ⟨-18000, false, [69, 83, 84], -14400, true, [69, 68, 84], true, ⟨0, 11, 1, 0, 7200⟩, ⟨0, 3, 2, 0, 7200⟩⟩ p) = true →
      Xfoot_Lookup (tupFt ⟨-18000, false, [69, 83, 84], -14400, true, [69, 68, 84], true, ⟨0, 11, 1, 0, 7200⟩, ⟨0, 3, 2, 0, 7200⟩⟩) p K := fun hp hK hd => sfootLookup _ _ hp (by decide) (ifT (of_decide_eq_true hd) hK)
  obtain ⟨f, hf⟩ : ∃ f, f = (Ft.parse [60, 43, 48, 53, 51, 48, 62, 45, 53, 58, 51, 48]).1 := ⟨_, rfl⟩
  have g4 : ∀ {K}, K (f.so, f.sd, S f.sa, ()) → Xfoot_Lookup (tupFt f) 5 K := fun hK => by
    have h1 : decide (-9223372036854775808 ≤ f.so ∧ f.so ≤ 9223372036854775807) = true := by rw [hf]; kernel_rfl
    have h2 : decide (f.sum 5) = false := by rw [hf]; kernel_rfl
    exact sfootLookup f _ (by decide) (of_decide_eq_true h1) (ifF (of_decide_eq_false h2) hK)
  iterate 15
    first
    | refine ifT trivial ?_
    | refine ifT (by kernel_rfl) ?_
  refine g1 (p := 1710053999) (by decide) ?_ (by kernel_rfl)
  refine ifT (by rw [S_toList]; kernel_rfl) ?_
  refine g2 (p := 1710054000) (by decide) ?_ (by kernel_rfl)
  refine ifT (by rw [S_toList]; kernel_rfl) ?_
  refine g2 (p := 1730613599) (by decide) ?_ (by kernel_rfl)
  refine ifT (by rw [S_toList]; kernel_rfl) ?_
  refine g1 (p := 1730613600) (by decide) ?_ (by kernel_rfl)
  refine ifT (by rw [S_toList]; kernel_rfl) ?_
  refine g3 (p := 1704085200) (by decide) ?_ (by kernel_rfl)
  refine ifT (by rw [S_toList]; kernel_rfl) ?_
  rw [← hf]
  refine g4 ?_
  refine ifT (by simp) ?_
  refine sfootRight ⟨-18000, false, [69, 83, 84], -14400, true, [69, 68, 84], true, ⟨0, 3, 2, 0, 7200⟩, ⟨0, 11, 1, 0, 7200⟩⟩ (ifT (by kernel_rfl) ?_)
  refine sfootRight .z ?_
  have hz : (!Ft.z.ok) = true := by kernel_rfl
  rw [hz]; exact h
end Go.Proofs.YtcopbcfekmbhlaaGreatDoor
end
section
set_option linter.unusedVariables false
set_option linter.unusedSimpArgs false
namespace Go.Proofs.YtcopbcfekmbhlaaGreatDoor
open Go Go.Proofs.YtcopbcfekmbhlaaGreatDoor.Eng Go.Proofs.YtcopbcfekmbhlaaGreatDoor.Pl
set_option linter.unusedVariables false
set_option linter.unusedSimpArgs false

theorem forFt {Q : Int × Bool × ByteArray × Int × Bool × ByteArray × Bool × Int × Int × Int × Int × Int × Int × Int × Int × Int × Int × Unit → Prop} (h : ∀ f, Q (tupFt f)) (a) : Q a := by
  obtain ⟨f, rfl⟩ := tupFt_all a
  exact h f
def i64 (n : Int) : Prop := -9223372036854775808 ≤ n ∧ n ≤ 9223372036854775807
theorem wf64 {n : Int} (h : (Lit.int .i64 n).wf = true) : i64 n := by
  simp [Lit.wf, IntKind.min, IntKind.max, IntKind.bits, IntKind.signed] at h
  unfold i64; omega
theorem toB {b : Bool} {K : Bool → Prop} (h : K true) (hb : b = true) : K b := by rw [hb]; exact h
theorem ok_so {f : Ft} (h : f.ok = true) : -89999 ≤ f.so ∧ f.so ≤ 89999 ∧ f.sd = false ∧ abbrL f.sa = true := by
  unfold Ft.ok at h
  rw [Bool.and_eq_true] at h
  obtain ⟨k1, k2, k3, k4⟩ := kind_all.1 h.1
  exact ⟨k3, k4, k2, k1⟩
theorem ok_bare {f : Ft} (h : f.ok = true) : (⟨f.so, f.sd, f.sa, 0, false, [], false, .z, .z⟩ : Ft).ok = true := by
  unfold Ft.ok at *
  rw [Bool.and_eq_true] at h
  simp only [h.1, Bool.true_and]
  rfl
theorem sLook (f : Ft) (p : Int) (hp : i64 p) (ho : i64 f.so) {K} (h : ∀ r, (f.sum p ∧ r = (f.wo, f.wd, S f.wa, ())) ∨ (¬ f.sum p ∧ r = (f.so, f.sd, S f.sa, ())) → K r) : Xfoot_Lookup (tupFt f) p K :=
  sfootLookup f p hp ho (ifC (fun e => h _ (.inl ⟨e, rfl⟩)) fun e => h _ (.inr ⟨e, rfl⟩))
theorem sSpan (f : Ft) (y : Int) {K} (h : ∀ a b ok, (f.spans y ∧ a = f.from' y ∧ b = f.to' y ∧ ok = true) ∨ (¬ f.spans y ∧ a = 0 ∧ b = 0 ∧ ok = false) → K a b ok) : Xfoot_Span (tupFt f) y K :=
  sfootSpan f y (ifC (fun e => h _ _ _ (.inl ⟨e, rfl, rfl, rfl⟩)) fun e => h _ _ _ (.inr ⟨e, rfl, rfl, rfl⟩))
theorem sDate (n : Int) {K} (h : ∀ y m d ok, ((-719162 ≤ n ∧ n ≤ 2932896) ∧ y = yearP n ∧ m = monP n ∧ d = dayP n ∧ ok = true) ∨ (¬ (-719162 ≤ n ∧ n ≤ 2932896) ∧ y = 0 ∧ m = 0 ∧ d = 0 ∧ ok = false) → K y m d ok) : Xday_Date n K :=
  sday n (ifC (fun e => h _ _ _ _ (.inl ⟨e, rfl, rfl, rfl, rfl⟩)) fun e => h _ _ _ _ (.inr ⟨e, rfl, rfl, rfl, rfl⟩))
theorem toList_iff {a b : ByteArray} : a.toList = b.toList ↔ a = b := by
  constructor
  · intro h
    rw [of_S a, of_S b] at h ⊢
    rw [S_toList, S_toList] at h
    rw [h]
  · intro h; rw [h]
theorem eq_ty (r : Int × Bool × ByteArray × Unit) (o : Int) (d : Bool) (s : ByteArray) : ((r.1 == o && (r.2.1 == d && (r.2.2.1.toList == s.toList && true))) = true) = (r = (o, d, s, ())) := by
  obtain ⟨a, b, c, _⟩ := r
  simp [toList_iff]
theorem eq_ty' (r q : Int × Bool × ByteArray × Unit) : ((r.1 == q.1 && (r.2.1 == q.2.1 && (r.2.2.1.toList == q.2.2.1.toList && true))) = true) = (r = q) := by
  obtain ⟨a, b, c, _⟩ := q
  exact eq_ty r a b c
theorem not_true (b : Bool) : ((!b) = true) = ¬ (b = true) := by cases b <;> simp
end Go.Proofs.YtcopbcfekmbhlaaGreatDoor
end
section
set_option linter.unusedVariables false
set_option linter.unusedSimpArgs false
namespace Go.Proofs.YtcopbcfekmbhlaaGreatDoor
open Go Go.Proofs.YtcopbcfekmbhlaaGreatDoor.Eng Go.Proofs.YtcopbcfekmbhlaaGreatDoor.Pl
set_option linter.unusedVariables false
set_option linter.unusedSimpArgs false

theorem rleap (y : Int) {K} (h : K (leapY y)) : Xepactref03_Leap y K := by
  unfold Xepactref03_Leap Yepactref03_Leap
  obtain ⟨t1, t2, t3⟩ := tmod_leap y
  have fin : ∀ z : Bool, (z = true ↔ (y % 4 = 0 ∧ (y % 100 ≠ 0 ∨ y % 400 = 0))) → K z := fun z hz => cast (congrArg K (Bool.eq_iff_iff.2 ((leapY_iff y).trans hz.symm))) h
  simp only [beq_iff_eq, bne_iff_ne, ne_eq, t1, t2]
  refine ifC (fun h1 => ifC (fun h2 => fin _ ?_) fun h2 => fin _ ?_) fun h1 => fin _ ?_
  · simp; omega
  · rw [beq_iff_eq, t3]; omega
  · rw [beq_iff_eq, t3]; omega
theorem rdays (y m : Int) (h1 : 1 ≤ m) (h2 : m ≤ 12) {K} (h : K (dim y m)) : Xepactref03_days y m K := by
  unfold Xepactref03_days Yepactref03_days
  rw [w64_in (by omega) (by omega)]
  rcases month_cases h1 h2 with rfl | rfl | rfl | rfl | rfl | rfl | rfl | rfl | rfl | rfl | rfl | rfl
  all_goals first
    | exact ifF (by decide) (ifT (by decide) h)
    | (refine ifT rfl (rleap _ ?_)
       unfold dim at h
       rw [if_pos rfl] at h
       refine ifC (fun hl => ?_) fun hl => ifT (by decide) ?_
       · rw [if_pos hl] at h; exact h
       · rw [if_neg hl] at h; exact h)
theorem rlast (y m : Int) {K} (h : K (if 1 ≤ y ∧ y ≤ 9999 ∧ 1 ≤ m ∧ m ≤ 12 then dim y m else 0) (decide (1 ≤ y ∧ y ≤ 9999 ∧ 1 ≤ m ∧ m ≤ 12))) : Xepactref03_Last y m K := by
  unfold Xepactref03_Last Yepactref03_Last
  simp only [decide_eq_true_eq, gt_iff_lt]
  by_cases e : 1 ≤ y ∧ y ≤ 9999 ∧ 1 ≤ m ∧ m ≤ 12
  · rw [if_pos e, decide_eq_true e] at h
    exact ifF (by omega) (ifF (by omega) (ifF (by omega) (ifF (by omega) (rdays _ _ (by omega) (by omega) h))))
  · rw [if_neg e, decide_eq_false e] at h
    exact ifC (fun _ => h) fun _ => ifC (fun _ => h) fun _ => ifC (fun _ => h) fun _ => ifT (by omega) h
theorem rfirst (y : Int) (h1 : 1 ≤ y) (h2 : y ≤ 10001) {K} (h : K (fst y)) : Xepactref03_first y K := by
  unfold Xepactref03_first Yepactref03_first
  unfold fst at h
  simp only [lt]
  simp (disch := omega) only [w64_in, Int.tdiv_eq_ediv_of_nonneg]
  exact h
theorem cum_one (y : Int) : cum y 1 = 0 := by unfold cum cum0; simp
theorem cum_bd (y m : Int) (h1 : 1 ≤ m) (h2 : m ≤ 12) : 0 ≤ cum y m ∧ cum y m ≤ 335 := by
  unfold cum cum0
  rcases month_cases h1 h2 with rfl | rfl | rfl | rfl | rfl | rfl | rfl | rfl | rfl | rfl | rfl | rfl
  all_goals (simp only [if_true, if_false, Int.reduceEq]; split <;> omega)
theorem rnum (y m d : Int) (hd0 : -9223372036854775808 ≤ d) (hd1 : d ≤ 9223372036854775807) {K} (h : K (if okD y m d then num y m d else 0) (decide (okD y m d))) : Xepactref03_Number y m d K := by
  unfold Xepactref03_Number Yepactref03_Number
  refine rlast _ _ ?_
  simp only [decide_eq_true_eq, gt_iff_lt, lt]
  by_cases e : 1 ≤ y ∧ y ≤ 9999 ∧ 1 ≤ m ∧ m ≤ 12
  · rw [decide_eq_true e, if_pos e]
    refine ifF (by simp) ?_
    by_cases e2 : 1 ≤ d ∧ d ≤ dim y m
    · have ok : okD y m d := ⟨e.1, e.2.1, e.2.2.1, e.2.2.2, e2.1, e2.2⟩
      rw [if_pos ok, decide_eq_true ok] at h
      have hd := dim_bd y m
      have hf := fst_bd e.1 e.2.1
      have hf2 := fst_le (y := y) (z := y + 1) (by omega)
      refine ifF (by omega) (ifF (by omega) (rfirst y (by omega) (by omega) ?_))
      rw [w64_in (n := fst y + d) (by omega) (by omega), w64_in (n := fst y + d - 1) (by omega) (by omega)]
      refine lp_at (fun j : Nat => ((y, m, (0 : Int), false, fst y + d - 1 + cum y (1 + j), (1 + j : Int), ()), ())) (m - 1).toNat (by simp [cum_one]) fun j hj k hk => ?_
      unfold Lepactref03_Number_0
      simp only [decide_eq_true_eq]
      have hc := cum_bd y (1 + j) (by omega) (by omega)
      by_cases hlt : (1 + j : Int) < m
      · refine ifT hlt (rdays _ _ (by omega) (by omega) ?_)
        have hs := cum_succ y (1 + j) (by omega) (by omega)
        rw [if_neg (by omega)] at hs
        have hdj := dim_bd y (1 + j)
        have := hk (by omega)
        rw [w64_in (by omega) (by omega), w64_in (by omega) (by omega)]
        refine cast (congrArg k ?_) this
        simp only [Prod.mk.injEq, and_true, true_and]
        constructor
        · rw [show (1 : Int) + ((j + 1 : Nat) : Int) = 1 + j + 1 by omega]; omega
        · omega
      · refine ifF hlt ?_
        have : (1 + j : Int) = m := by omega
        rw [this]
        unfold num at h
        rw [show fst y + d - 1 + cum y m = fst y + cum y m + d - 1 by omega]; exact h
    · have ok : ¬ okD y m d := fun h => e2 h.2.2.2.2
      rw [if_neg ok, decide_eq_false ok] at h
      exact ifC (fun _ => h) fun _ => ifT (by omega) h
  · have ok : ¬ okD y m d := fun h => e ⟨h.1, h.2.1, h.2.2.1, h.2.2.2.1⟩
    rw [if_neg ok, decide_eq_false ok] at h
    rw [decide_eq_false e]
    exact ifT rfl h
theorem rweek (n : Int) {K} (h : K (wk n)) : Xepactref03_Week n K := by
  unfold Xepactref03_Week Yepactref03_Week
  have ht : -7 < Int.tmod n 7 ∧ Int.tmod n 7 < 7 ∧ (Int.tmod n 7 + 11) % 7 = (n + 4) % 7 := by
    rw [Int.tmod_eq_emod]; split <;> simp <;> omega
  simp only [lt]
  rw [w64_in (by omega) (by omega), Int.tmod_eq_emod_of_nonneg (by omega), ht.2.2]; exact h
theorem rdiv (a b : Int) (h0 : -9223372036854775808 ≤ a) (h1 : a ≤ 9223372036854775807) (hb : 1 ≤ b) (hb' : b ≤ 9223372036854775807) {K} (h : K (a / b) (a % b) true) : Xepactref01_Div a b K := sdiv a b h0 h1 hb hb' h
theorem radd (a b : Int) (ha : -9223372036854775808 ≤ a ∧ a ≤ 9223372036854775807) (hb : -9223372036854775808 ≤ b ∧ b ≤ 9223372036854775807) {K}
    (h : if -9223372036854775808 ≤ a + b ∧ a + b ≤ 9223372036854775807 then K (a + b) true else K 0 false) : Xepactref01_Add a b K := by
  unfold Xepactref01_Add Yepactref01_Add
  simp only [decide_eq_true_eq, gt_iff_lt]
  by_cases e : -9223372036854775808 ≤ a + b ∧ a + b ≤ 9223372036854775807
  · rw [if_pos e] at h
    rw [w64_in e.1 e.2]
    refine ifC (fun h1 => ?_) fun h1 => ?_
    · rw [w64_in (n := 9223372036854775807 - b) (by omega) (by omega)]
      exact ifF (by omega) (ifF (by omega) h)
    · refine ifC (fun h2 => ?_) fun h2 => h
      rw [w64_in (n := -9223372036854775808 - b) (by omega) (by omega)]
      exact ifF (by omega) h
  · rw [if_neg e] at h
    refine ifC (fun h1 => ?_) fun h1 => ?_
    · rw [w64_in (n := 9223372036854775807 - b) (by omega) (by omega)]
      exact ifT (by omega) h
    · refine ifC (fun h2 => ?_) fun h2 => absurd ha (by omega)
      rw [w64_in (n := -9223372036854775808 - b) (by omega) (by omega)]
      exact ifT (by omega) h
theorem rdate (n : Int) {K} (h : if -719162 ≤ n ∧ n ≤ 2932896 then K (yearP n) (monP n) (dayP n) true else K 0 0 0 false) : Xepactref03_Date n K := by
  unfold Xepactref03_Date Yepactref03_Date
  simp only [decide_eq_true_eq, gt_iff_lt, lt]
  by_cases e : -719162 ≤ n ∧ n ≤ 2932896
  · rw [if_pos e] at h
    refine ifF (by omega) (ifF (by omega) ?_)
    obtain ⟨hv, hn⟩ := num_date e.1 e.2
    have hb := num_bd hv
    rw [hn] at hb
    obtain ⟨v1, v2, v3, v4, v5, v6⟩ := hv
    generalize yearP n = y at *
    generalize monP n = m at *
    generalize dayP n = d at *
    rw [show n - -719162 = n + 719162 by omega, w64_in (n := n + 719162) (by omega) (by omega), Int.tdiv_eq_ediv_of_nonneg (by omega), w64_in (n := (n + 719162) / 366) (by omega) (by omega), w64_in (by omega) (by omega)]
    have hy0 : (n + 719162) / 366 + 1 ≤ y := by
      have h2 := hb.2
      unfold fst at h2
      omega
    refine lp_at (fun j : Nat => ((n, (0 : Int), (0 : Int), (0 : Int), false, (n + 719162) / 366 + 1 + (j : Int), ()), ())) (y - ((n + 719162) / 366 + 1)).toNat (by simp) fun j hj k hk => ?_
    unfold Lepactref03_Date_0
    simp only [decide_eq_true_eq, ge_iff_le]
    rw [w64_in (by omega) (by omega)]
    refine rfirst _ (by omega) (by omega) ?_
    by_cases hlt : (n + 719162) / 366 + 1 + (j : Int) < y
    · have hle := fst_le (y := (n + 719162) / 366 + 1 + (j : Int) + 1) (z := y) (by omega)
      refine ifT (by omega) ?_
      have := hk (by omega)
      rw [show (n + 719162) / 366 + 1 + ((j + 1 : Nat) : Int) = (n + 719162) / 366 + 1 + (j : Int) + 1 by omega] at this
      exact this
    · have ey : (n + 719162) / 366 + 1 + (j : Int) = y := by omega
      rw [ey]
      refine ifF (by omega) (rfirst _ (by omega) (by omega) ?_)
      have hf := fst_bd v1 v2
      rw [w64_in (n := n - fst y) (by omega) (by omega)]
      refine lp_at (fun i : Nat => (((0 : Int), (0 : Int), (0 : Int), false, y, n - fst y - cum y (1 + i), (1 + i : Int), ()), ())) (m - 1).toNat (by simp [cum_one]) fun i hi k hk => ?_
      unfold Lepactref03_Date_1
      simp only [decide_eq_true_eq, ge_iff_le]
      have hnum : n = fst y + cum y m + d - 1 := by rw [← hn]; rfl
      have hc := cum_bd y (1 + i) (by omega) (by omega)
      have hcm := cum_bd y m (by omega) (by omega)
      have hdm := dim_bd y m
      refine rdays _ _ (by omega) (by omega) ?_
      by_cases hl2 : (1 + i : Int) < m
      · have hs := cum_succ y (1 + i) (by omega) (by omega)
        rw [if_neg (by omega)] at hs
        have mono : ∀ (q : Nat) (a : Int), 1 ≤ a → a + q ≤ 12 → cum y a ≤ cum y (a + q) := by
          intro q
          induction q with
          | zero => intro a _ _; simp
          | succ q ih =>
            intro a h1 h2
            have h3 := ih a h1 (by omega)
            have h4 := cum_mono y (a + q) (by omega) (by omega)
            rw [show a + ((q + 1 : Nat) : Int) = a + q + 1 by omega]; omega
        have hm := mono (m - (1 + i + 1)).toNat (1 + i + 1) (by omega) (by omega)
        rw [show (1 + i + 1 : Int) + (((m - (1 + i + 1)).toNat : Nat) : Int) = m by omega] at hm
        have hc2 := cum_bd y (1 + i + 1) (by omega) (by omega)
        refine ifT (by omega) (rdays _ _ (by omega) (by omega) ?_)
        have := hk (by omega)
        rw [w64_in (by omega) (by omega), w64_in (by omega) (by omega)]
        rw [show (1 : Int) + ((i + 1 : Nat) : Int) = 1 + i + 1 by omega] at this
        rw [show n - fst y - cum y (1 + i) - dim y (1 + i) = n - fst y - cum y (1 + i + 1) by omega]
        exact this
      · have em : (1 + i : Int) = m := by omega
        rw [em]
        refine ifF (by omega) ?_
        rw [w64_in (by omega) (by omega), show n - fst y - cum y m + 1 = d by omega]; exact h
  · rw [if_neg e] at h
    exact ifC (fun _ => h) fun _ => ifT (by omega) h
end Go.Proofs.YtcopbcfekmbhlaaGreatDoor
end
section
set_option linter.unusedVariables false
set_option linter.unusedSimpArgs false
namespace Go.Proofs.YtcopbcfekmbhlaaGreatDoor
open Go Go.Proofs.YtcopbcfekmbhlaaGreatDoor.Eng Go.Proofs.YtcopbcfekmbhlaaGreatDoor.Pl
set_option linter.unusedVariables false
set_option linter.unusedSimpArgs false

theorem rruleRight (k a b c x : Int) {K} (h : K (rightR k a b c x)) : Xepactref17_Right (k, a, b, c, x, ()) K := by
  unfold Xepactref17_Right Yepactref17_Right
  simp only [beq_iff_eq, decide_eq_true_eq, gt_iff_lt, ge_iff_le]
  have fin : ∀ z : Bool, (z = true ↔ ((-604799 ≤ x ∧ x ≤ 604799) ∧ ((k = 0 ∧ 1 ≤ a ∧ a ≤ 12 ∧ 1 ≤ b ∧ b ≤ 5 ∧ 0 ≤ c ∧ c ≤ 6) ∨ (k = 1 ∧ 1 ≤ a ∧ a ≤ 365 ∧ b = 0 ∧ c = 0) ∨ (k = 2 ∧ 0 ≤ a ∧ a ≤ 365 ∧ b = 0 ∧ c = 0)))) → K z := fun z hz =>
    cast (congrArg K (Bool.eq_iff_iff.2 ((right_iff k a b c x).trans hz.symm))) h
  clear h
  repeat' (first | refine ifC (fun _ => ?_) (fun _ => ?_) | refine fin _ ?_)
  all_goals (simp only [decide_eq_true_eq, Bool.false_eq_true, false_iff, beq_iff_eq]; omega)
theorem digsN_dec (m n : Nat) (h : n < 10 ^ (m + 1)) (hm : m ≤ 19) : digsN (m + 1) n = digsN 20 n := by
  rw [digsN_eq m n h, digsN_eq 19 n (Nat.lt_of_lt_of_le h (Nat.pow_le_pow_right (by omega) (by omega)))]
theorem wu8_in {n : Int} (h0 : 0 ≤ n) (h1 : n ≤ 255) : wu8 n = n := by
  simp only [wu8, IntKind.wrap, IntKind.bits, IntKind.signed]
  try simp
  try omega
theorem rdecN : ∀ (m n : Nat) (a : Int), n < 10 ^ (m + 1) → m ≤ 17 → (m : Int) - 100 ≤ a → a ≤ 1 → ∀ {K : ByteArray → Prop}, K (S (digsN (m + 1) n)) → Xepactref17_decimalsn (m + 1) (n : Int) a K
  | m, n, a, hn, hm, h0, h1, K, h => by
    have hn18 : n < 10 ^ 18 := Nat.lt_of_lt_of_le hn (Nat.pow_le_pow_right (by omega) (by omega))
    show Yepactref17_decimals (Xepactref17_decimalsn m) (n : Int) a K
    unfold Yepactref17_decimals
    rw [show (10 : Int) = ((10 : Nat) : Int) from rfl, tmodN, tdivN]
    rw [w64_in (n := 48 + ((n % 10 : Nat) : Int)) (by omega) (by omega), wu8_in (by omega) (by omega)]
    have hp : Eng.packB [Eng.V.c (Value.int IntKind.u8 (48 + ((n % 10 : Nat) : Int)))] = S [UInt8.ofNat (48 + n % 10)] := by
      have : (48 + ((n % 10 : Nat) : Int)).toNat = 48 + n % 10 := by omega
      unfold Eng.packB Eng.byteOf
      simp only [List.map_cons, List.map_nil, this]
    simp only [lt]
    rw [hp]
    simp only [decide_eq_true_eq]
    by_cases h10 : n < 10
    · refine ifT (by omega) (ifT (by omega) ?_)
      rw [digsN, if_pos h10] at h
      rw [Nat.mod_eq_of_lt h10]; exact h
    · refine ifF (by omega) ?_
      obtain ⟨m', rfl⟩ : ∃ m', m = m' + 1 := ⟨m - 1, by
        cases m with
        | zero => simp at hn; omega
        | succ m => omega⟩
      rw [w64_in (by omega) (by omega), w64_in (by omega) (by omega)]
      refine rdecN m' (n / 10) (a - 1) (Nat.div_lt_of_lt_mul (by rw [Nat.pow_succ, Nat.mul_comm] at hn; exact hn)) (by omega) (by omega) (by omega) ?_
      have hl := digsN_len (m' + 1) (n / 10)
      simp only [S_size, S_append, List.length_singleton]
      refine ifF (by omega) ?_
      rw [digsN, if_neg h10] at h
      exact h
termination_by m => m
theorem rdec (n : Nat) (hn : n < 10 ^ 18) {K : ByteArray → Prop} (h : K (S (digsN 20 n))) : Xepactref17_decimals (n : Int) 1 K :=
  ⟨18, rdecN 17 n 1 hn (by omega) (by omega) (by omega) (by rw [digsN_dec 17 n hn (by omega)]; exact h)⟩
theorem rdec2 (n : Nat) (hn : n < 60) {K : ByteArray → Prop} (h : K (S (digsN 20 (n / 10) ++ digsN 20 (n % 10)))) : Xepactref17_decimals (n : Int) 2 K := by
  refine ⟨19, ?_⟩
  show Yepactref17_decimals (Xepactref17_decimalsn 18) (n : Int) 2 K
  unfold Yepactref17_decimals
  rw [show (10 : Int) = ((10 : Nat) : Int) from rfl, tmodN, tdivN]
  rw [w64_in (n := 48 + ((n % 10 : Nat) : Int)) (by omega) (by omega), wu8_in (by omega) (by omega)]
  have hp : Eng.packB [Eng.V.c (Value.int IntKind.u8 (48 + ((n % 10 : Nat) : Int)))] = S [UInt8.ofNat (48 + n % 10)] := by
    have : (48 + ((n % 10 : Nat) : Int)).toNat = 48 + n % 10 := by omega
    unfold Eng.packB Eng.byteOf
    simp only [List.map_cons, List.map_nil, this]
  simp only [lt]
  rw [hp, w64_in (by omega) (by omega), w64_in (by omega) (by omega)]
  simp only [decide_eq_true_eq]
  have h1 : digsN 20 (n % 10) = [UInt8.ofNat (48 + n % 10)] := by rw [digsN, if_pos (by omega)]
  have hr : ∀ {K : ByteArray → Prop}, K (S (digsN 20 (n / 10))) → Xepactref17_decimalsn 18 ((n / 10 : Nat) : Int) (2 - 1) K := fun hK =>
    rdecN 17 (n / 10) _ (by omega) (by omega) (by omega) (by omega) (by rw [digsN_dec 17 _ (by omega) (by omega)]; exact hK)
  have hl := digsN_len 20 (n / 10)
  rw [h1] at h
  have fin : (if (↑((S (digsN 20 (n / 10))).size + (S [UInt8.ofNat (48 + n % 10)]).size) : Int) > 9223372036854775807 then False else K (S (digsN 20 (n / 10)) ++ S [UInt8.ofNat (48 + n % 10)])) := by
    simp only [S_size, S_append, List.length_singleton]
    exact ifF (by omega) h
  exact ifC (fun _ => ifF (by omega) (hr fin)) fun _ => hr fin
theorem rclock (x : Int) {K} (h : K (S (clockL x).1) (clockL x).2) : Xepactref17_Clock x K := by
  unfold Xepactref17_Clock Yepactref17_Clock
  simp only [decide_eq_true_eq, bne_iff_ne, ne_eq, lt, gt_iff_lt]
  unfold clockL at h
  by_cases e : -604799 ≤ x ∧ x ≤ 604799
  · rw [if_pos e] at h
    refine ifF (by omega) (ifF (by omega) ?_)
    have key : ∀ (a : Nat), a ≤ 604799 → ((a : Int) = if x < 0 then 0 - x else x) → K (S ((if x < 0 then [45] else []) ++ clockB a)) true := fun a ha he => by
      have : x.natAbs = a := by split at he <;> omega
      rw [this] at h; exact h
    obtain ⟨a, ha⟩ : ∃ a : Nat, (a : Int) = if x < 0 then 0 - x else x := ⟨x.natAbs, by split <;> omega⟩
    have ha' : a ≤ 604799 := by split at ha <;> omega
    have hk := key a ha' ha
    have l1 := digsN_len 20 (a / 3600)
    have l2 := digsN_len 20 (a / 60 % 60 / 10)
    have l3 := digsN_len 20 (a / 60 % 60 % 10)
    have l4 := digsN_len 20 (a % 60 / 10)
    have l5 := digsN_len 20 (a % 60 % 10)
    have c3600 : (3600 : Int) = ((3600 : Nat) : Int) := rfl
    have c60 : (60 : Int) = ((60 : Nat) : Int) := rfl
    clear key h
    unfold clockB pairL at hk
    refine ifC (fun hneg => ?_) fun hneg => ?_
    · rw [if_pos hneg] at ha hk
      rw [w64_in (n := 0 - x) (by omega) (by omega), ← ha, c3600, c60, tdivN, tdivN, tmodN, tmodN, w64_in (by omega) (by omega), w64_in (by omega) (by omega), tmodN]
      refine rdec _ (by omega) ?_
      simp only [S_size, S_append, List.length_append, List.length_singleton]
      refine ifF (by omega) ?_
      refine ifC (fun hh => ?_) fun hh => ?_
      · refine ifF (by omega) (rdec2 _ (by omega) ?_)
        simp only [S_size, S_append, List.length_append, List.length_singleton]
        refine ifF (by omega) ?_
        refine ifC (fun hs => ?_) fun hs => ?_
        · rw [if_pos (by omega)] at hk
          refine ifF (by omega) (rdec2 _ (by omega) ?_)
          simp only [S_size, S_append, List.length_append, List.length_singleton]
          refine ifF (by omega) ?_
          simpa [List.append_assoc] using hk
        · rw [if_neg (by omega), if_pos (by omega)] at hk
          simpa [List.append_assoc] using hk
      · refine ifF (by omega) ?_
        rw [if_neg (by omega), if_neg (by omega)] at hk
        simpa [List.append_assoc] using hk
    · rw [if_neg hneg] at ha hk
      rw [← ha, c3600, c60, tdivN, tdivN, tmodN, tmodN, w64_in (by omega) (by omega), w64_in (by omega) (by omega), tmodN]
      refine rdec _ (by omega) ?_
      simp only [S_size, S_append, List.length_append, List.length_singleton, List.nil_append, List.length_nil]
      refine ifF (by omega) ?_
      refine ifC (fun hh => ?_) fun hh => ?_
      · refine ifF (by omega) (rdec2 _ (by omega) ?_)
        simp only [S_size, S_append, List.length_append, List.length_singleton]
        refine ifF (by omega) ?_
        refine ifC (fun hs => ?_) fun hs => ?_
        · rw [if_pos (by omega)] at hk
          refine ifF (by omega) (rdec2 _ (by omega) ?_)
          simp only [S_size, S_append, List.length_append, List.length_singleton]
          refine ifF (by omega) ?_
          simpa [List.append_assoc] using hk
        · rw [if_neg (by omega), if_pos (by omega)] at hk
          simpa [List.append_assoc] using hk
      · refine ifF (by omega) ?_
        rw [if_neg (by omega), if_neg (by omega)] at hk
        simpa [List.append_assoc] using hk
  · rw [if_neg e] at h
    exact ifC (fun _ => h) fun _ => ifT (by omega) h
theorem itoaK_dig (n : Int) (h0 : 0 ≤ n) : itoaK n = digsN 20 n.toNat := by
  unfold itoaK; rw [if_neg (by omega)]
theorem rdecI (n : Int) (h0 : 0 ≤ n) (h1 : n ≤ 1000000) {K : ByteArray → Prop} (h : K (S (itoaK n))) : Xepactref17_decimals n 1 K := by
  obtain ⟨m, rfl⟩ : ∃ m : Nat, n = m := ⟨n.toNat, by omega⟩
  rw [itoaK_dig _ h0] at h
  exact rdec m (by omega) h
theorem rruleText (k a b c x : Int) {K} (h : K (S (textL k a b c x).1) (textL k a b c x).2) : Xepactref17_Text (k, a, b, c, x, ()) K := by
  unfold Xepactref17_Text Yepactref17_Text
  refine rruleRight _ _ _ _ _ ?_
  unfold textL at h
  by_cases e : rightR k a b c x = true
  · rw [if_pos e] at h
    obtain ⟨hx, hr⟩ := (right_iff k a b c x).1 e
    have l1 := itoaK_len a
    have l2 := itoaK_len b
    have l3 := itoaK_len c
    have l4 := clockL_len x
    unfold headL tailL at h
    simp only [beq_iff_eq, bne_iff_ne, ne_eq, lt]
    refine ifF (by simp [e]) (rdecI _ (by omega) (by omega) ?_)
    refine ifC (fun k0 => ?_) fun k0 => ?_
    · subst k0
      rw [if_pos rfl] at h
      simp only [S_size, S_append, List.length_append, List.length_singleton]
      refine ifF (by omega) (ifF (by omega) (rdecI _ (by omega) (by omega) ?_))
      simp only [S_size, S_append, List.length_append, List.length_singleton]
      refine ifF (by omega) (ifF (by omega) (rdecI _ (by omega) (by omega) ?_))
      simp only [S_size, S_append, List.length_append, List.length_singleton]
      refine ifF (by omega) (ifF (by omega) ?_)
      refine ifC (fun hs => ?_) fun hs => ?_
      · rw [if_neg hs] at h
        refine rclock _ ?_
        simp only [S_size, S_append, List.length_append, List.length_singleton]
        refine ifF (by omega) (ifF (by omega) ?_)
        simpa [List.append_assoc] using h
      · rw [if_pos (by omega)] at h
        simpa [List.append_assoc] using h
    · rw [if_neg k0] at h
      refine ifC (fun k1 => ?_) fun k1 => ?_
      · rw [if_pos k1] at h
        simp only [S_size, S_append, List.length_append, List.length_singleton]
        refine ifF (by omega) ?_
        refine ifC (fun hs => ?_) fun hs => ?_
        · rw [if_neg hs] at h
          refine rclock _ ?_
          simp only [S_size, S_append, List.length_append, List.length_singleton]
          refine ifF (by omega) (ifF (by omega) ?_)
          simpa [List.append_assoc] using h
        · rw [if_pos (by omega)] at h
          simpa [List.append_assoc] using h
      · rw [if_neg k1] at h
        refine ifC (fun hs => ?_) fun hs => ?_
        · rw [if_neg hs] at h
          refine rclock _ ?_
          simp only [S_size, S_append, List.length_append, List.length_singleton]
          refine ifF (by omega) (ifF (by omega) ?_)
          simpa [List.append_assoc] using h
        · rw [if_pos (by omega)] at h
          simpa [List.append_assoc] using h
  · rw [if_neg e] at h
    exact ifT (by simpa using e) h
theorem rtwo (l : List UInt8) {K} (h : K (if (sixtyL l).2.2 = true then (sixtyL l).1 else -1) (S (sixtyL l).2.1)) : Xepactref17_two (S l) K := by
  unfold Xepactref17_two Yepactref17_two
  simp only [S_size, S_extract, decide_eq_true_eq, gt_iff_lt, bne_iff_ne, ne_eq]
  match l, h with
  | [], h => exact ifT (by simp) h
  | [_], h => exact ifT (by simp) h
  | [_, _], h => exact ifT (by simp) h
  | c :: a :: b :: r, h =>
    have hlen : (c :: a :: b :: r).length = r.length + 3 := rfl
    rw [hlen, bAt0, bAt1, bAt2]
    obtain ⟨p, hp⟩ : ∃ p, p = sixtyL (c :: a :: b :: r) := ⟨_, rfl⟩
    rw [← hp] at h
    refine ifF (by omega) (ifT (by omega) ?_)
    by_cases hh : c = 58 ∧ isDig a = true ∧ isDig b = true ∧ a.toNat ≤ 53
    · rw [sixty_yes hh] at hp
      subst hp
      obtain ⟨rfl, ha, hb, h5⟩ := hh
      unfold isDig at ha hb
      simp at ha hb
      refine ifF (by decide) (ifT (by omega) (ifF (by omega) (ifT (by omega) (ifF (by omega) (ifT (by omega) (ifF (by omega) (ifT (by omega) (ifF (by omega) (ifT (by omega) ?_)))))))))
      simp only [lt]
      refine ifT (by omega) ?_
      rw [wu8_in (by omega) (by omega), wu8_in (by omega) (by omega)]
      simp (disch := omega) only [w64_in]
      refine ifT (by omega) (ifT (by omega) ?_)
      have e3 : ((58 :: a :: b :: r).drop 3).take (Int.toNat ((r.length + 3 : Nat) : Int) - 3) = r := by
        rw [show (58 :: a :: b :: r).drop 3 = r from rfl, List.take_of_length_le (by omega)]
      rw [e3]; exact h
    · rw [sixty_no hh] at hp
      subst hp
      have h' : K (-1) (S (c :: a :: b :: r)) := h
      by_cases hc : c = 58
      · subst hc
        have hd : ¬ (48 ≤ a.toNat ∧ a.toNat ≤ 57 ∧ 48 ≤ b.toNat ∧ b.toNat ≤ 57 ∧ a.toNat ≤ 53) := fun hd => hh ⟨rfl, by unfold isDig; simp; omega, by unfold isDig; simp; omega, hd.2.2.2.2⟩
        refine ifF (by decide) (ifT (by omega) (ifC (fun _ => h') fun _ => ifT (by omega) (ifC (fun _ => h') fun _ => ifT (by omega) (ifC (fun _ => h') fun _ => ifT (by omega) (ifT (by omega) h')))))
      · exact ifT (fun h => hc (u8_eq (by have : c.toNat = 58 := by omega
                                          exact this))) h'
end Go.Proofs.YtcopbcfekmbhlaaGreatDoor
end
section
set_option linter.unusedVariables false
set_option linter.unusedSimpArgs false
namespace Go.Proofs.YtcopbcfekmbhlaaGreatDoor
open Go Go.Proofs.YtcopbcfekmbhlaaGreatDoor.Eng Go.Proofs.YtcopbcfekmbhlaaGreatDoor.Pl
set_option linter.unusedVariables false
set_option linter.unusedSimpArgs false

theorem valL_take_lt (l : List UInt8) (j : Nat) (hj : j ≤ dl l) (hj4 : j ≤ 4) : valL (l.take j) < 10000 := by
  have h := valL_lt _ (take_dl_dig l j hj)
  have hl : (l.take j).length ≤ 4 := by rw [List.length_take]; omega
  have : 10 ^ (l.take j).length ≤ 10 ^ 4 := Nat.pow_le_pow_right (by omega) hl
  omega
theorem bAt_get (l : List UInt8) (j : Nat) (h : j < l.length) : Eng.bAt (S l) j = (l[j].toNat : Int) := by
  rw [bAt_S]; simp [h]
theorem rnumE (l : List UInt8) (m hi j v : Nat) (hj : j ≤ l.length) {K : Int → ByteArray → Prop} (h : if j < 1 ∨ m < j ∨ hi < v then K (-1) (S l) else K (v : Int) (S (l.drop j))) :
    if decide ((j : Int) < (1 : Int)) = true then K (-1 : Int) (S l) else if decide ((j : Int) > (m : Int)) = true then K (-1 : Int) (S l) else if decide ((v : Int) > (hi : Int)) = true then K (-1 : Int) (S l) else
      if (0 : Int) ≤ (↑(ByteArray.size (S l)) : Int) ∧ (↑(ByteArray.size (S l)) : Int) ≤ (↑(ByteArray.size (S l)) : Int) then
        (if (0 : Int) ≤ (j : Int) ∧ (j : Int) ≤ (↑(ByteArray.size (S l)) : Int) then K (v : Int) (ByteArray.extract (S l) (Int.toNat (j : Int)) (Int.toNat (↑(ByteArray.size (S l)) : Int))) else False) else False := by
  simp only [decide_eq_true_eq, gt_iff_lt, S_size, S_extract, Int.toNat_natCast, take_all]
  by_cases e : j < 1 ∨ m < j ∨ hi < v
  · rw [if_pos e] at h
    exact ifC (fun _ => h) fun _ => ifC (fun _ => h) fun _ => ifT (by omega) h
  · rw [if_neg e] at h
    exact ifF (by omega) (ifF (by omega) (ifF (by omega) (ifT (by omega) (ifT (by omega) h))))
theorem rnumber (l : List UInt8) (m hi : Nat) (hm : m ≤ 3) (hl : l.length ≤ 140737488351232) {K} (h : K (refNum l m hi).1 (S (refNum l m hi).2)) : Xepactref17_number (S l) 1 (m : Int) (hi : Int) K := by
  unfold Xepactref17_number Yepactref17_number
  have hd := dl_le l
  have fin : ∀ j, j = min (dl l) (m + 1) → if j < 1 ∨ m < j ∨ hi < valL (l.take j) then K (-1) (S l) else K (valL (l.take j) : Int) (S (l.drop j)) := by
    intro j hj
    unfold refNum at h
    by_cases e : dl l = 0 ∨ m < dl l
    · rw [if_pos (by omega)] at h
      exact ifT (by omega) h
    · have : j = dl l := by omega
      subst this
      by_cases e2 : hi < valL (l.take (dl l))
      · rw [if_pos (by omega)] at h
        exact ifT (by omega) h
      · rw [if_neg (by omega)] at h
        exact ifF (by omega) h
  refine lp_at (fun j : Nat => ((S l, (1 : Int), (m : Int), (hi : Int), (0 : Int), ByteArray.mk #[], (valL (l.take j) : Int), (j : Int), ()), ())) (min (dl l) (m + 1)) (by simp [valL]) fun j hj k hk => ?_
  unfold Lepactref17_number_0
  have hv := valL_take_lt l j (by omega) (by omega)
  by_cases hlt : j < min (dl l) (m + 1)
  · have hjl : j < l.length := by omega
    have hdig := dl_digit l j (by omega)
    rw [isDig_iff] at hdig
    simp only [S_size, decide_eq_true_eq, ge_iff_le, Int.toNat_natCast, bAt_get l j hjl, lt]
    refine ifT (by omega) (ifT (by omega) (ifT (by omega) (ifT (by omega) (ifT (by omega) (ifT (by omega) (ifT (by omega) ?_))))))
    have := hk hlt
    rw [take_succ_at l j hjl, valL_snoc] at this
    rw [wu8_in (by omega) (by omega)]
    simp (disch := omega) only [w64_in]
    refine cast (congrArg k ?_) this
    simp only [Prod.mk.injEq, and_true, true_and]
    omega
  · have ej : j = min (dl l) (m + 1) := by omega
    have hex := rnumE l m hi j (valL (l.take j)) (by omega) (fin j ej)
    simp only [decide_eq_true_eq, gt_iff_lt, ge_iff_le] at hex ⊢
    by_cases c1 : j < l.length
    · simp only [S_size, Int.toNat_natCast, bAt_get l j c1]
      simp only [S_size, Int.toNat_natCast] at hex
      refine ifT (by omega) (ifT (by omega) ?_)
      by_cases c2 : j = m + 1
      · refine ifC (fun _ => ifT (by omega) (ifC (fun _ => ifF (by omega) hex) fun _ => hex)) fun _ => hex
      · have hj2 : j = dl l := by omega
        subst hj2
        have hs := dl_stop l c1
        have hs' : ¬ (48 ≤ l[dl l].toNat ∧ l[dl l].toNat ≤ 57) := fun h => by rw [(isDig_iff _).2 h] at hs; cases hs
        refine ifC (fun _ => ifT (by omega) (ifF (by omega) hex)) fun _ => hex
    · refine ifF (by rw [S_size]; omega) hex
theorem rdot (l : List UInt8) (hl : l.length ≤ 140737488351232) {K} (h : K (refDot l).1 (S (refDot l).2)) : Xepactref17_dot (S l) K := by
  unfold Xepactref17_dot Yepactref17_dot
  simp only [S_size, S_extract, decide_eq_true_eq, bne_iff_ne, ne_eq, Int.toNat_natCast, take_all]
  unfold refDot at h
  cases l with
  | nil => exact ifT (by simp) h
  | cons c r =>
    rw [bAt0]
    simp only [List.length_cons] at hl ⊢
    refine ifF (by omega) (ifT (by omega) ?_)
    by_cases e : c = 46
    · subst e
      rw [if_pos (show (46 :: r).head? = some 46 from rfl)] at h
      refine ifF (by decide) (ifT (by omega) (ifT (by omega) (rnumber _ 1 9 (by omega) (by simp; omega) ?_)))
      exact h
    · rw [if_neg (by simpa using e)] at h
      exact ifT (fun h => e (u8_eq (by have : c.toNat = 46 := by omega
                                       exact this))) h
theorem refNum_len (l : List UInt8) (m hi : Nat) : (refNum l m hi).2.length ≤ l.length := by
  unfold refNum; split
  · exact Nat.le_refl _
  · simp
theorem refDot_len (l : List UInt8) : (refDot l).2.length ≤ l.length := by
  unfold refDot; split
  · have := refNum_len l.tail 1 9
    rw [List.length_tail] at this; omega
  · exact Nat.le_refl _
theorem rhead (l : List UInt8) (hl : l.length ≤ 140737488351232) {K} (h : K ((refHead l).1, (refHead l).2.1, (refHead l).2.2.1, (refHead l).2.2.2.1, 7200, ()) (S (refHead l).2.2.2.2)) : Xepactref17_head (S l) K := by
  unfold Xepactref17_head Yepactref17_head
  simp only [S_size, S_extract, decide_eq_true_eq, beq_iff_eq, gt_iff_lt, Int.toNat_natCast, take_all]
  unfold refHead at h
  cases l with
  | nil =>
    simp only [List.length_nil] at hl ⊢
    rw [if_neg (by simp), if_neg (by simp)] at h
    exact ifF (by omega) (ifF (by omega) (rnumber [] 3 365 (by omega) (by simp) h))
  | cons c r =>
    rw [bAt0]
    simp only [List.length_cons] at hl ⊢
    refine ifT (by omega) (ifT (by omega) ?_)
    by_cases e : c = 77
    · subst e
      rw [if_pos (show (77 :: r).head? = some 77 from rfl)] at h
      simp only [List.tail_cons] at h
      have q1 := refNum_len r 2 12
      have q2 := refDot_len (refNum r 2 12).2
      exact ifT (by decide) (ifT (by omega) (ifT (by omega) (rnumber r 2 12 (by omega) (by omega) (rdot _ (by omega) (rdot _ (by omega) h)))))
    · rw [if_neg (by simpa using e)] at h
      refine ifF (fun h => e (u8_eq (by have : c.toNat = 77 := by omega
                                        exact this))) (ifT (by omega) (ifT (by omega) ?_))
      by_cases e2 : c = 74
      · subst e2
        rw [if_pos (show (74 :: r).head? = some 74 from rfl)] at h
        simp only [List.tail_cons] at h
        exact ifT (by decide) (ifT (by omega) (ifT (by omega) (rnumber r 3 365 (by omega) (by omega) h)))
      · rw [if_neg (by simpa using e2)] at h
        exact ifF (fun h => e2 (u8_eq (by have : c.toNat = 74 := by omega
                                          exact this))) (rnumber (c :: r) 3 365 (by omega) (by simp; omega) h)
theorem refHead_len (l : List UInt8) : (refHead l).2.2.2.2.length ≤ l.length := by
  unfold refHead
  have q0 : l.tail.length ≤ l.length := by rw [List.length_tail]; omega
  have q1 := refNum_len l.tail 2 12
  have q2 := refDot_len (refNum l.tail 2 12).2
  have q3 := refDot_len (refDot (refNum l.tail 2 12).2).2
  have q4 := refNum_len l.tail 3 365
  have q5 := refNum_len l 3 365
  repeat' split
  all_goals (simp only; omega)
/-- Behind the hours. -/
theorem rtimeE (l t : List UInt8) (sg : Int) (hsg : sg = 1 ∨ sg = -1) (v j : Nat) (hv : v ≤ 167) (hj : j ≤ t.length) {K : Int → ByteArray → Bool → Prop}
    (h : if j = 0 then K 0 (S l) false else K (sg * ((v : Int) * 3600 + (sixtyL (t.drop j)).1 * 60 + (moreL (sixtyL (t.drop j))).1)) (S (moreL (sixtyL (t.drop j))).2.1) true) :
    if ((j : Int) == (0 : Int)) = true then K (0 : Int) (S l) false else
      if (0 : Int) ≤ (↑(ByteArray.size (S t)) : Int) ∧ (↑(ByteArray.size (S t)) : Int) ≤ (↑(ByteArray.size (S t)) : Int) then
        (if (0 : Int) ≤ (j : Int) ∧ (j : Int) ≤ (↑(ByteArray.size (S t)) : Int) then
          Xepactref17_two (ByteArray.extract (S t) (Int.toNat (j : Int)) (Int.toNat (↑(ByteArray.size (S t)) : Int))) (fun r27 r28 =>
            (if decide (r27 < (0 : Int)) = true then
              (lt (w64 (w64 (sg * (3600 : Int)) * (v : Int))) fun v29 => K v29 (ByteArray.extract (S t) (Int.toNat (j : Int)) (Int.toNat (↑(ByteArray.size (S t)) : Int))) true)
            else
              Xepactref17_two r28 (fun r30 r31 =>
                (if decide (r30 < (0 : Int)) = true then
                  (lt (w64 (w64 ((3600 : Int) * (v : Int)) + w64 ((60 : Int) * r27))) fun v32 => K (w64 (sg * v32)) r28 true)
                else
                  (lt (w64 (w64 ((3600 : Int) * (v : Int)) + w64 ((60 : Int) * r27))) fun v33 => (lt (w64 (sg * w64 (v33 + r30))) fun v34 => K v34 r31 true))))))
        else False) else False := by
  simp only [beq_iff_eq, S_size, S_extract, decide_eq_true_eq, Int.toNat_natCast, take_all, lt]
  by_cases e : j = 0
  · rw [if_pos e] at h
    exact ifT (by omega) h
  · rw [if_neg e] at h
    refine ifF (by omega) (ifT (by omega) (ifT (by omega) (rtwo _ ?_)))
    have b1 := sixty_bd (t.drop j)
    by_cases e2 : (sixtyL (t.drop j)).2.2 = true
    · rw [if_pos e2]
      refine ifF (by omega) (rtwo _ ?_)
      have b2 := sixty_bd (sixtyL (t.drop j)).2.1
      have em : moreL (sixtyL (t.drop j)) = sixtyL (sixtyL (t.drop j)).2.1 := by unfold moreL; rw [if_pos e2]
      rw [em] at h
      by_cases e3 : (sixtyL (sixtyL (t.drop j)).2.1).2.2 = true
      · rw [if_pos e3]
        refine ifF (by omega) ?_
        rcases hsg with rfl | rfl
        · simp (disch := omega) only [w64_in]
          refine cast (congrArg (fun z => K z (S (sixtyL (sixtyL (t.drop j)).2.1).2.1) true) ?_) h
          omega
        · simp (disch := omega) only [w64_in]
          refine cast (congrArg (fun z => K z (S (sixtyL (sixtyL (t.drop j)).2.1).2.1) true) ?_) h
          omega
      · rw [if_neg e3]
        refine ifT (by omega) ?_
        have hz : (sixtyL (sixtyL (t.drop j)).2.1).1 = 0 ∧ (sixtyL (sixtyL (t.drop j)).2.1).2.1 = (sixtyL (t.drop j)).2.1 := sixty_bad _ (by simpa using e3)
        rw [hz.1, hz.2] at h
        rcases hsg with rfl | rfl
        · simp (disch := omega) only [w64_in]
          refine cast (congrArg (fun z => K z (S (sixtyL (t.drop j)).2.1) true) ?_) h
          omega
        · simp (disch := omega) only [w64_in]
          refine cast (congrArg (fun z => K z (S (sixtyL (t.drop j)).2.1) true) ?_) h
          omega
    · rw [if_neg e2]
      refine ifT (by omega) ?_
      have hz := sixty_bad _ (by simpa using e2)
      have em : moreL (sixtyL (t.drop j)) = (0, (sixtyL (t.drop j)).2.1, false) := by unfold moreL; rw [if_neg e2]
      rw [em, hz.1] at h
      simp only at h
      rw [hz.2] at h
      rcases hsg with rfl | rfl
      · simp (disch := omega) only [w64_in]
        refine cast (congrArg (fun z => K z (S (t.drop j)) true) ?_) h
        omega
      · simp (disch := omega) only [w64_in]
        refine cast (congrArg (fun z => K z (S (t.drop j)) true) ?_) h
        omega
theorem valL_mono (a b : List UInt8) : valL a ≤ valL (a ++ b) := by
  have : ∀ (b : List UInt8) (n : Nat), n ≤ b.foldl (fun n c => 10 * n + (c.toNat - 48)) n := by
    intro b
    induction b with
    | nil => intro n; exact Nat.le_refl _
    | cons c b ih => intro n; rw [List.foldl_cons]; exact Nat.le_trans (by omega) (ih _)
  unfold valL
  rw [List.foldl_append]
  exact this b _
theorem rtimeL (l t : List UInt8) (sg : Int) (hsg : sg = 1 ∨ sg = -1) (hl : t.length ≤ 140737488351232) {K : Int → ByteArray → Bool → Prop}
    (h : if dl t = 0 then K 0 (S l) false else K (sg * (((hourL t).1 : Int) * 3600 + (sixtyL (t.drop (hourL t).2)).1 * 60 + (moreL (sixtyL (t.drop (hourL t).2))).1)) (S (moreL (sixtyL (t.drop (hourL t).2))).2.1) true) :
    Eng.lp (Lepactref17_Time_0 Xepactref17_two K) ((S l, (0 : Int), ByteArray.mk #[], false, S t, sg, (0 : Int), (0 : Int), ()), ()) := by
  obtain ⟨b1, b2, b3, b4⟩ := hour_bd t
  have hd := dl_le t
  have hmin : valL (t.take (min (dl t) 3)) > 167 → min (dl t) 3 = 3 := fun hg => by
    have h2 : valL (t.take (min (dl t) 3)) < 10 ^ (t.take (min (dl t) 3)).length := valL_lt _ (take_dl_dig t _ (Nat.min_le_left _ _))
    rcases Nat.lt_or_ge (min (dl t) 3) 3 with h | h
    · have : (t.take (min (dl t) 3)).length ≤ 2 := by rw [List.length_take]; omega
      have : 10 ^ (t.take (min (dl t) 3)).length ≤ 10 ^ 2 := Nat.pow_le_pow_right (by omega) this
      omega
    · omega
  have hspec : (hourL t).1 = valL (t.take (hourL t).2) ∧ ((hourL t).2 = t.length ∨ (hourL t).2 = 3 ∨ ∃ hlt : (hourL t).2 < t.length, ¬ (48 ≤ t[(hourL t).2].toNat ∧ t[(hourL t).2].toNat ≤ 57) ∨ 167 < 10 * (hourL t).1 + (t[(hourL t).2].toNat - 48)) := by
    by_cases hg : valL (t.take (min (dl t) 3)) > 167
    · have h3 := hmin hg
      have hh : hourL t = (valL (t.take 3) / 10, 2) := by unfold hourL; rw [if_pos hg, h3]
      rw [h3] at hg
      have hlt : 2 < t.length := by omega
      have hdig := (isDig_iff _).1 (dl_digit t 2 (by omega))
      rw [take_succ_at t 2 hlt, valL_snoc] at hh hg
      rw [hh]
      simp only
      refine ⟨by omega, .inr (.inr ⟨hlt, .inr ?_⟩)⟩
      omega
    · have hh : hourL t = (valL (t.take (min (dl t) 3)), min (dl t) 3) := by unfold hourL; rw [if_neg hg]
      rw [hh]
      simp only
      refine ⟨trivial, ?_⟩
      rcases Nat.lt_or_ge (dl t) 3 with h3 | h3
      · have hm : min (dl t) 3 = dl t := by omega
        rw [hm]
        rcases Nat.lt_or_ge (dl t) t.length with hlt | hge
        · refine .inr (.inr ⟨hlt, .inl fun hc => ?_⟩)
          have hs := dl_stop t hlt
          rw [(isDig_iff _).2 hc] at hs; cases hs
        · exact .inl (by omega)
      · exact .inr (.inl (by omega))
  obtain ⟨hval, hex⟩ := hspec
  have fin : (if (hourL t).2 = 0 then K 0 (S l) false else K (sg * (((hourL t).1 : Int) * 3600 + (sixtyL (t.drop (hourL t).2)).1 * 60 + (moreL (sixtyL (t.drop (hourL t).2))).1)) (S (moreL (sixtyL (t.drop (hourL t).2))).2.1) true) := by
    by_cases e : dl t = 0
    · rw [if_pos e] at h
      exact ifT (by omega) h
    · rw [if_neg e] at h
      exact ifF (by have := b4 e; omega) h
  have hE := rtimeE l t sg hsg (hourL t).1 (hourL t).2 b1 (by omega) fin
  refine lp_at (fun j : Nat => ((S l, (0 : Int), ByteArray.mk #[], false, S t, sg, (j : Int), (valL (t.take j) : Int), ()), ())) (hourL t).2 (by simp [valL]) fun j hj k hk => ?_
  unfold Lepactref17_Time_0
  by_cases hlt : j < (hourL t).2
  · have hjl : j < t.length := by omega
    have hdig := (isDig_iff _).1 (dl_digit t j (by omega))
    have hv1 : valL (t.take (j + 1)) ≤ 167 := by
      have e : t.take (hourL t).2 = t.take (j + 1) ++ (t.take (hourL t).2).drop (j + 1) := by
        have := List.take_append_drop (j + 1) (t.take (hourL t).2)
        rw [List.take_take, Nat.min_eq_left (by omega)] at this
        exact this.symm
      have := valL_mono (t.take (j + 1)) ((t.take (hourL t).2).drop (j + 1))
      rw [← e, ← hval] at this
      omega
    have := hk hlt
    rw [take_succ_at t j hjl, valL_snoc] at this hv1
    simp only [S_size, decide_eq_true_eq, ge_iff_le, Int.toNat_natCast, bAt_get t j hjl, lt]
    rw [wu8_in (by omega) (by omega), w64_in (n := (t[j].toNat : Int) - 48) (by omega) (by omega), w64_in (n := 10 * (valL (t.take j) : Int)) (by omega) (by omega),
      w64_in (n := 10 * (valL (t.take j) : Int) + ((t[j].toNat : Int) - 48)) (by omega) (by omega), w64_in (n := (j : Int) + 1) (by omega) (by omega)]
    refine ifT (by omega) (ifT (by omega) (ifT (by omega) (ifT (by omega) (ifT (by omega) (ifT (by omega) (ifT (by omega) (ifT (by omega) (ifT (by omega) ?_))))))))
    refine cast (congrArg k ?_) this
    simp only [Prod.mk.injEq, and_true, true_and]
    omega
  · have ej : j = (hourL t).2 := by omega
    have hE' := hE
    rw [hval] at hE' hex
    rw [← ej] at hE' hex
    have hj3 : valL (t.take j) < 10000 := valL_take_lt t j (by omega) (by omega)
    simp only [decide_eq_true_eq, ge_iff_le] at hE' ⊢
    rcases hex with hx | hx | ⟨hlt2, hx⟩
    · exact ifF (by rw [S_size]; omega) hE'
    · refine ifC (fun _ => ?_) fun _ => hE'
      exact ifF (by omega) hE'
    · simp only [Int.toNat_natCast, bAt_get t j hlt2] at hE' ⊢
      refine ifT (by rw [S_size]; omega) (ifC (fun _ => ?_) fun _ => hE')
      refine ifT (by rw [S_size]; omega) ?_
      by_cases hg : 48 ≤ t[j].toNat ∧ t[j].toNat ≤ 57
      · refine ifT (by omega) (ifT (by rw [S_size]; omega) (ifT (by omega) (ifT (by rw [S_size]; omega) ?_)))
        simp only [lt]
        rw [wu8_in (by omega) (by omega), w64_in (n := (t[j].toNat : Int) - 48) (by omega) (by omega), w64_in (n := 10 * (valL (t.take j) : Int)) (by omega) (by omega),
          w64_in (n := 10 * (valL (t.take j) : Int) + ((t[j].toNat : Int) - 48)) (by omega) (by omega)]
        exact ifF (by omega) hE'
      · refine ifC (fun _ => ?_) fun _ => hE'
        refine ifT (by rw [S_size]; omega) (ifF (by omega) hE')
end Go.Proofs.YtcopbcfekmbhlaaGreatDoor
end
section
set_option linter.unusedVariables false
set_option linter.unusedSimpArgs false
namespace Go.Proofs.YtcopbcfekmbhlaaGreatDoor
open Go Go.Proofs.YtcopbcfekmbhlaaGreatDoor.Eng Go.Proofs.YtcopbcfekmbhlaaGreatDoor.Pl
set_option linter.unusedVariables false
set_option linter.unusedSimpArgs false

theorem u8_of {c d : UInt8} (h : (c.toNat : Int) = (d.toNat : Int)) : c = d := u8_eq (by omega)
theorem drop1 (c : UInt8) (r : List UInt8) : ByteArray.extract (S (c :: r)) 1 (Int.toNat (↑(ByteArray.size (S (c :: r))) : Int)) = S r := by
  rw [S_extract, S_size, Int.toNat_natCast, take_all]; rfl
theorem rtime (l : List UInt8) (hl : l.length ≤ 140737488351232) {K} (h : K (timeL l).1 (S (timeL l).2.1) (timeL l).2.2) : Xepactref17_Time (S l) K := by
  unfold Xepactref17_Time Yepactref17_Time
  have key : ∀ (t : List UInt8) (sg : Int), (sg = 1 ∨ sg = -1) → signL l = (sg, t) → t.length ≤ l.length → Eng.lp (Lepactref17_Time_0 Xepactref17_two K) ((S l, (0 : Int), ByteArray.mk #[], false, S t, sg, (0 : Int), (0 : Int), ()), ()) := by
    intro t sg hsg he ht
    refine rtimeL l t sg hsg (by omega) ?_
    unfold timeL at h
    rw [he] at h
    by_cases e : dl t = 0
    · rw [if_pos e] at h
      exact ifT e h
    · rw [if_neg e] at h
      exact ifF e h
  cases l with
  | nil => exact ifF (by decide) (key [] 1 (.inl rfl) rfl (Nat.le_refl _))
  | cons c r =>
    have hs : (↑(ByteArray.size (S (c :: r))) : Int) = (r.length : Int) + 1 := by rw [S_size]; rfl
    rw [drop1, bAt0, hs]
    simp only [decide_eq_true_eq, gt_iff_lt, beq_iff_eq]
    refine ifT (by omega) (ifT (by omega) (ifC (fun e => ?_) fun e => ifT (by omega) (ifC (fun e2 => ?_) fun e2 => ?_)))
    · have : c = 45 := u8_of e
      subst this
      exact ifT (by omega) (ifT e (ifT (by omega) (ifT (by omega) (key r (-1) (.inr rfl) rfl (by simp)))))
    · have : c = 43 := u8_of e2
      subst this
      exact ifT (by omega) (ifF e (ifT (by omega) (ifT (by omega) (key r 1 (.inl rfl) rfl (by simp)))))
    · refine key (c :: r) 1 (.inl rfl) ?_ (Nat.le_refl _)
      show (if c = 45 then ((-1 : Int), r) else if c = 43 then (1, r) else (1, c :: r)) = (1, c :: r)
      rw [if_neg (fun h => e (by rw [h]; rfl)), if_neg (fun h => e2 (by rw [h]; rfl))]
theorem rruleParse (l : List UInt8) (hl : l.length ≤ 140737488351232) {K} (h : K ((parseL l).1, (parseL l).2.1, (parseL l).2.2.1, (parseL l).2.2.2.1, (parseL l).2.2.2.2.1, ()) (S (parseL l).2.2.2.2.2.1) (parseL l).2.2.2.2.2.2) : Xepactref17_Parse (S l) K := by
  unfold Xepactref17_Parse Yepactref17_Parse
  refine rhead l hl (rruleRight _ _ _ _ _ ?_)
  have hlen := refHead_len l
  by_cases hR : rightR (refHead l).1 (refHead l).2.1 (refHead l).2.2.1 (refHead l).2.2.2.1 7200 = true
  · refine ifF (by simp [hR]) ?_
    have hd := head_yes l hR
    have hp : parseL l = if (refHead l).2.2.2.2.head? = some 47 then
        (if (timeL (refHead l).2.2.2.2.tail).2.2 = true ∧ rightR (refHead l).1 (refHead l).2.1 (refHead l).2.2.1 (refHead l).2.2.2.1 (timeL (refHead l).2.2.2.2.tail).1 = true then
          ((refHead l).1, (refHead l).2.1, (refHead l).2.2.1, (refHead l).2.2.2.1, (timeL (refHead l).2.2.2.2.tail).1, (timeL (refHead l).2.2.2.2.tail).2.1, true) else (0, 0, 0, 0, 0, l, false))
        else ((refHead l).1, (refHead l).2.1, (refHead l).2.2.1, (refHead l).2.2.2.1, 7200, (refHead l).2.2.2.2, true) := by
      unfold parseL
      rw [hd]
      simp only [if_true]
      rw [if_pos hR]
    generalize parseL l = q at *
    generalize (refHead l).2.2.2.2 = rest at *
    cases rest with
    | nil =>
      rw [if_neg (by simp)] at hp
      subst hp
      exact ifF (by rw [S_size]; simp) h
    | cons c r =>
      have hs : (↑(ByteArray.size (S (c :: r))) : Int) = (r.length : Int) + 1 := by rw [S_size]; rfl
      rw [drop1, bAt0, hs]
      simp only [List.length_cons] at hlen
      simp only [decide_eq_true_eq, gt_iff_lt, beq_iff_eq]
      refine ifT (by omega) (ifT (by omega) (ifC (fun e => ?_) fun e => ?_))
      · have : c = 47 := u8_of e
        subst this
        rw [if_pos (show (47 :: r).head? = some 47 from rfl), List.tail_cons] at hp
        refine ifT (by omega) (ifT (by omega) (rtime r (by omega) ?_))
        have hb := time_bd r
        have hs := right_sec (refHead l).1 (refHead l).2.1 (refHead l).2.2.1 (refHead l).2.2.2.1 (timeL r).1 7200 ⟨hb.1, hb.2.1⟩ (by omega)
        have hR' := hs.trans hR
        by_cases ht : (timeL r).2.2 = true
        · rw [if_pos ⟨ht, hR'⟩] at hp
          subst hp
          exact ifF (by simp [ht]) h
        · rw [if_neg (fun h => ht h.1)] at hp
          subst hp
          exact ifT (by simpa using ht) h
      · rw [if_neg (fun h => e (by simp at h; rw [h]; rfl))] at hp
        subst hp
        exact h
  · have hno : (dateL l).2.2.2.2.2 = true → ¬ rightR (dateL l).1 (dateL l).2.1 (dateL l).2.2.1 (dateL l).2.2.2.1 7200 = true := by
      intro ho h
      have e := head_of l ho h
      rw [e] at hR
      exact hR h
    have hz : parseL l = (0, 0, 0, 0, 0, l, false) := by
      unfold parseL
      by_cases ho : (dateL l).2.2.2.2.2 = true
      · rw [if_pos ho]
        have h' := hno ho
        split
        · have hb := time_bd (dateL l).2.2.2.2.1.tail
          rw [if_neg (fun h => h' ((right_sec _ _ _ _ 7200 (timeL (dateL l).2.2.2.2.1.tail).1 (by omega) ⟨hb.1, hb.2.1⟩).trans h.2))]
        · first | rfl | rw [if_neg h']
      · rw [if_neg ho]
    rw [hz] at h
    exact ifT (by simpa using hR) h
theorem rdayLoop (n last A B C : Int) (r : Int) (hr : r = (C - wk n + 7) % 7) (hC : 0 ≤ C ∧ C ≤ 6) (hB : 1 ≤ B ∧ B ≤ 5) (hl : 28 ≤ last ∧ last ≤ 31) (hn : -800000 ≤ n ∧ n ≤ 3000000) (K0 X : Int) {K : Int → Bool → Prop} (h : K (atW n r B last) true) :
    Eng.lp (Lepactref17_Day_0 Xepactref03_Week K) (((), (0 : Int), false, n, last, (-1 : Int), (0 : Int), n, ()), (K0, A, B, C, X, ()), ()) := by
  have hr6 : 0 ≤ r ∧ r ≤ 6 := by omega
  refine lp_at (fun t : Nat => (((), (0 : Int), false, n, last, atW n r B t, manyW r B t, n + (t : Int), ()), (K0, A, B, C, X, ()), ())) last.toNat ?_ fun t ht k hk => ?_
  · have hm0 : manyW r B ((0 : Nat) : Int) = 0 := by unfold manyW hits; split <;> omega
    have ha0 : atW n r B ((0 : Nat) : Int) = -1 := by unfold atW; rw [hm0]; rfl
    simp only [hm0, ha0]
    simp
  · unfold Lepactref17_Day_0
    simp only [decide_eq_true_eq, beq_iff_eq]
    have hw : wk (n + t) = C ↔ (t : Int) % 7 = r := by
      unfold wk at hr ⊢
      omega
    have hm : 0 ≤ manyW r B t ∧ manyW r B t ≤ 5 := by unfold manyW hits; split <;> omega
    rw [w64_in (n := n + last) (by omega) (by omega)]
    by_cases hlt : (t : Int) < last
    · have ih := hk (by omega)
      rw [show ((t + 1 : Nat) : Int) = (t : Int) + 1 by omega] at ih
      refine ifT (by omega) (rweek _ ?_)
      rw [w64_in (n := n + t + 1) (by omega) (by omega), w64_in (n := manyW r B t + 1) (by omega) (by omega), show n + (t : Int) + 1 = n + ((t : Int) + 1) by omega]
      refine ifC (fun c => ?_) fun c => ?_
      · have c' := hw.1 c
        refine ifC (fun b => ?_) fun b => ?_
        · have e2 : manyW r B (t + 1) = manyW r B t + 1 := by
            unfold manyW hits at b ⊢
            split at b <;> split <;> omega
          have e3 : atW n r B (t + 1) = n + t := by
            unfold atW
            rw [e2, if_neg (by omega)]
            unfold manyW hits at b ⊢
            split at b <;> omega
          rw [e2, e3] at ih
          exact ih
        · have e2 : manyW r B (t + 1) = manyW r B t := by
            unfold manyW hits at b ⊢
            split at b <;> split <;> omega
          have e3 : atW n r B (t + 1) = atW n r B t := by unfold atW; rw [e2]
          rw [e2, e3] at ih
          exact ih
      · have c' : ¬ (t : Int) % 7 = r := fun h => c (hw.2 h)
        have e2 : manyW r B (t + 1) = manyW r B t := by
          unfold manyW
          have : hits r ((t : Int) + 1) = hits r t := by unfold hits; omega
          rw [this]
        have e3 : atW n r B (t + 1) = atW n r B t := by unfold atW; rw [e2]
        rw [e2, e3] at ih
        exact ih
    · refine ifF (by omega) ?_
      have : (t : Int) = last := by omega
      rw [this]; exact h
theorem rruleDay (k a b c x y : Int) {K} (h : K (if (1 ≤ y ∧ y ≤ 9999) ∧ rightR k a b c x = true then ruleDay k a b c y else 0) (decide ((1 ≤ y ∧ y ≤ 9999) ∧ rightR k a b c x = true))) : Xepactref17_Day (k, a, b, c, x, ()) y K := by
  unfold Xepactref17_Day Yepactref17_Day
  refine rnum _ _ _ (by omega) (by omega) (rruleRight _ _ _ _ _ ?_)
  simp only [decide_eq_true_eq, gt_iff_lt, ge_iff_le, lt, beq_iff_eq]
  have h1 : okD y 1 1 ↔ (1 ≤ y ∧ y ≤ 9999) := by unfold okD; have := dim_jan y; omega
  by_cases e : rightR k a b c x = true
  · refine ifF (by simp [e]) ?_
    by_cases ey : 1 ≤ y ∧ y ≤ 9999
    · rw [if_pos (h1.2 ey), decide_eq_true (h1.2 ey)]
      refine ifF (by simp) ?_
      rw [if_pos ⟨ey, e⟩, decide_eq_true ⟨ey, e⟩] at h
      obtain ⟨hx, hr⟩ := (right_iff k a b c x).1 e
      have hf := fst_bd ey.1 ey.2
      have hf2 := fst_succ y
      rw [num_first]
      unfold ruleDay at h
      refine ifC (fun k1 => ?_) fun k1 => ?_
      · rw [if_neg (by omega), if_pos k1] at h
        rw [w64_in (n := fst y + a) (by omega) (by omega), w64_in (n := fst y + a - 1) (by omega) (by omega)]
        refine ifC (fun ha => rleap _ ?_) fun ha => ?_
        · refine ifC (fun hl => ?_) fun hl => ?_
          · rw [if_neg (by rintro (h | h); omega; rw [hl] at h; cases h)] at h
            rw [w64_in (by omega) (by omega), show fst y + a - 1 + 1 = fst y + a by omega]; exact h
          · rw [if_pos (.inr (by simpa using hl))] at h
            rw [show fst y + a - 1 = fst y - 1 + a by omega]; exact h
        · rw [if_pos (.inl (by omega))] at h
          rw [show fst y + a - 1 = fst y - 1 + a by omega]; exact h
      · refine ifC (fun k2 => ?_) fun k2 => ?_
        · rw [if_pos k2] at h
          rw [w64_in (by omega) (by omega)]; exact h
        · rw [if_neg k2, if_neg k1] at h
          refine rnum _ _ _ (by omega) (by omega) (rlast _ _ ?_)
          have hok : okD y a 1 := ⟨ey.1, ey.2, by omega, by omega, by omega, by have := dim_bd y a; omega⟩
          have hv : Vld y a 1 := ⟨ey.1, ey.2, by omega, by omega, by omega, by have := dim_bd y a; omega⟩
          have hnr := num_range hv
          have hdb := dim_bd y a
          rw [if_pos hok, if_pos ⟨ey.1, ey.2, by omega, by omega⟩]
          refine rdayLoop _ _ _ _ _ ((c - wk (num y a 1) + 7) % 7) rfl (by omega) (by omega) hdb (by omega) _ _ ?_
          refine cast (congrArg (fun z => K z true) ?_) h
          unfold offW
          have hr6 : 0 ≤ (c - wk (num y a 1) + 7) % 7 ∧ (c - wk (num y a 1) + 7) % 7 ≤ 6 := by omega
          generalize (c - wk (num y a 1) + 7) % 7 = r at hr6
          generalize num y a 1 = n
          generalize dim y a = q at hdb
          unfold atW manyW hits
          simp only []
          have hB' : b = 1 ∨ b = 2 ∨ b = 3 ∨ b = 4 ∨ b = 5 := by omega
          rcases hB' with rfl | rfl | rfl | rfl | rfl
          all_goals (repeat' split) <;> omega
    · rw [if_neg (fun h => ey h.1), decide_eq_false (fun h => ey h.1)] at h
      have : ¬ okD y 1 1 := fun h => ey (h1.1 h)
      rw [decide_eq_false this]
      exact ifT rfl h
  · rw [if_neg (fun h => e h.2), decide_eq_false (fun h => e h.2)] at h
    exact ifT (by simpa using e) h
theorem rruleAtR (r : Ru) (y : Int) {K} (h : if (1 ≤ y ∧ y ≤ 9999) ∧ r.ok = true then K (r.at y) true else K 0 false) : Xepactref17_At (tupRu r) y K := by
  unfold Xepactref17_At Yepactref17_At
  refine rruleDay _ _ _ _ _ _ ?_
  simp only [decide_eq_true_eq, lt]
  by_cases e : (1 ≤ y ∧ y ≤ 9999) ∧ rightR r.k r.a r.b r.c r.x = true
  · have e' : (1 ≤ y ∧ y ≤ 9999) ∧ r.ok = true := e
    rw [if_pos e'] at h
    rw [if_pos e, decide_eq_true e]
    refine ifF (by simp) ?_
    obtain ⟨hx, hr⟩ := (right_iff _ _ _ _ _).1 e.2
    have hf := fst_bd e.1.1 e.1.2
    have hf2 := fst_succ y
    have hb := ruleDay_bd e.1 e.2
    unfold Ru.at at h
    rw [w64_in (n := 86400 * ruleDay r.k r.a r.b r.c y) (by omega) (by omega), w64_in (by omega) (by omega), Int.mul_comm]
    exact h
  · have e' : ¬ ((1 ≤ y ∧ y ≤ 9999) ∧ r.ok = true) := e
    rw [if_neg e'] at h
    rw [decide_eq_false e]
    exact ifT rfl h
end Go.Proofs.YtcopbcfekmbhlaaGreatDoor
end
section
set_option linter.unusedVariables false
set_option linter.unusedSimpArgs false
namespace Go.Proofs.YtcopbcfekmbhlaaGreatDoor
open Go Go.Proofs.YtcopbcfekmbhlaaGreatDoor.Eng Go.Proofs.YtcopbcfekmbhlaaGreatDoor.Pl
set_option linter.unusedVariables false
set_option linter.unusedSimpArgs false

theorem rabbr (l : List UInt8) (hl : l.length ≤ 140737488351232) {K} (h : K (abbrL l)) : Xepactref14_Right (S l) K := by
  unfold Xepactref14_Right Yepactref14_Right
  have hn := nl_le badC l
  refine lp_at (fun j : Nat => ((S l, false, (j : Int), ()), ())) (nl badC l) rfl fun j hj k hk => ?_
  unfold Lepactref14_Right_0
  simp only [decide_eq_true_eq, ge_iff_le, gt_iff_lt, bne_iff_ne, ne_eq, not_true]
  by_cases hlt : j < nl badC l
  · have hjl : j < l.length := by omega
    have hg : badC l[j] = false := (nl_spec badC l j hjl).1 hlt
    have hk' : k ((S l, false, w64 ((j : Int) + 1), ()), ()) := by
      rw [w64_in (by omega) (by omega)]
      exact hk hlt
    simp only [S_size, Int.toNat_natCast, bAt_get l j hjl]
    unfold badC at hg
    simp at hg
    refine ifT (by omega) (ifT (by omega) ?_)
    repeat' (first | exact hk' | refine ifC (fun _ => ?_) (fun _ => ?_))
    all_goals (exfalso; omega)
  · have ej : j = nl badC l := by omega
    by_cases hjl : j < l.length
    · have hb : badC l[j] = true := (nl_spec badC l j hjl).2 ej
      have hK : K false := by
        have : abbrL l = false := by
          unfold abbrL
          rw [show l.any badC = true by rw [nl_any]; exact decide_eq_true (by omega)]
          simp
        rw [← this]; exact h
      simp only [S_size, Int.toNat_natCast, bAt_get l j hjl]
      unfold badC at hb
      simp at hb
      refine ifT (by omega) (ifT (by omega) ?_)
      repeat' (first | exact hK | refine ifC (fun _ => ?_) (fun _ => ?_))
      all_goals (exfalso; omega)
    · simp only [S_size]
      refine ifF (by omega) ?_
      have hany : l.any badC = false := by rw [nl_any]; exact decide_eq_false (by omega)
      unfold abbrL at h
      rw [hany] at h
      refine ifC (fun h1 => ?_) fun h1 => ?_
      · refine cast (congrArg K ?_) h
        apply Bool.eq_iff_iff.2
        simp
        omega
      · refine cast (congrArg K ?_) h
        apply Bool.eq_iff_iff.2
        simp
        omega
theorem rkind (o : Int) (d : Bool) (l : List UInt8) (hl : l.length ≤ 140737488351232) (w : Bool) {K} (h : K (kindR o d l w)) : Xepactref18_kind (o, d, S l, ()) w K := by
  unfold Xepactref18_kind Yepactref18_kind
  refine rabbr l hl ?_
  unfold kindR at h
  simp only [ge_iff_le, decide_eq_true_eq, beq_iff_eq]
  by_cases e1 : abbrL l = true
  · refine ifT e1 ?_
    by_cases e2 : d = w
    · refine ifT e2 ?_
      simp only [e1, e2, beq_self_eq_true, Bool.true_and] at h
      refine ifC (fun e3 => cast (congrArg K ?_) h) fun e3 => cast (congrArg K ?_) h
      · simp [e3]
      · simp [e3]
    · exact ifF e2 (cast (congrArg K (by simp [e2])) h)
  · exact ifF e1 (cast (congrArg K (by simp [e1])) h)
theorem rfootRight (f : Ft) (h1 : f.sa.length ≤ 140737488351232) (h2 : f.wa.length ≤ 140737488351232) {K} (h : K f.ok) : Xepactref18_Right (tupFt f) K := by
  unfold Xepactref18_Right Yepactref18_Right
  unfold Ft.ok at h
  by_cases eh : f.has = true
  · rw [if_pos eh] at h
    refine ifF (by simp [eh]) (rruleRight _ _ _ _ _ (rruleRight _ _ _ _ _ ?_))
    have fin : ∀ z : Bool, z = (kindR f.so f.sd f.sa false && (kindR f.wo f.wd f.wa true && f.fr.ok && f.to.ok)) → K z := fun z hz => by rw [hz]; exact h
    by_cases e3 : f.fr.ok = true
    · refine ifT e3 ?_
      by_cases e4 : f.to.ok = true
      · refine ifT e4 (rkind _ _ _ h1 _ ?_)
        by_cases e1 : kindR f.so f.sd f.sa false = true
        · exact ifT e1 (rkind _ _ _ h2 _ (fin _ (by simp [e1, e3, e4])))
        · exact ifF e1 (fin _ (by simp [e1]))
      · exact ifF e4 (fin _ (by simp [e4]))
    · exact ifF e3 (fin _ (by simp [e3]))
  · rw [if_neg eh] at h
    refine ifT (by simpa using eh) (rkind _ _ _ h1 _ ?_)
    have key : ∀ z : Bool, (z = true ↔ f.bare) → kindR f.so f.sd f.sa false = true → K z := fun z hz e => by
      rw [e, Bool.true_and] at h
      exact cast (congrArg K (Bool.eq_iff_iff.2 (decide_eq_true_iff.trans hz.symm))) h
    by_cases e1 : kindR f.so f.sd f.sa false = true
    · refine ifT e1 ?_
      simp only [lt]
      have e0 : (ByteArray.mk #[]).toList = [] := S_toList []
      refine ifC (fun c1 => ifC (fun c2 => key _ ?_ e1) fun c2 => key _ ?_ e1) fun c1 => key _ ?_ e1
      · unfold Ft.bare
        simp [S_toList] at c1 c2 ⊢
        constructor <;> intro hh <;> simp [hh, c1, c2]
      · unfold Ft.bare
        simp [S_toList] at c1 c2 ⊢
        intro _ _ _ q1 q2 q3 q4 q5
        exact absurd q5 (c2 q1 q2 q3 q4)
      · unfold Ft.bare
        simp [S_toList] at c1 ⊢
        intro q1 q2 q3
        exact absurd q3 (c1 q1 q2)
    · exact ifF e1 (cast (congrArg K (by simp [e1])) h)
end Go.Proofs.YtcopbcfekmbhlaaGreatDoor
end
section
set_option linter.unusedVariables false
set_option linter.unusedSimpArgs false
namespace Go.Proofs.YtcopbcfekmbhlaaGreatDoor
open Go Go.Proofs.YtcopbcfekmbhlaaGreatDoor.Eng Go.Proofs.YtcopbcfekmbhlaaGreatDoor.Pl
set_option linter.unusedVariables false
set_option linter.unusedSimpArgs false

theorem rletter (c : UInt8) {K} (h : K (letC c)) : Xepactref18_letter (c.toNat : Int) K := by
  unfold Xepactref18_letter Yepactref18_letter
  simp only [decide_eq_true_eq, ge_iff_le]
  unfold letC at h
  repeat' (first | refine ifT (by omega) ?_ | refine ifF (by omega) ?_ | refine ifC (fun _ => ?_) (fun _ => ?_))
  all_goals (refine cast (congrArg K ?_) h; apply Bool.eq_iff_iff.2; simp; omega)
theorem rnamed (l : List UInt8) (hl : l.length ≤ 1000) {K} (h : K (S (nameT l))) : Xepactref18_named (S l) K := by
  unfold Xepactref18_named Yepactref18_named
  have hn := nl_le (fun c => !letC c) l
  refine lp_at (fun j : Nat => ((S l, ByteArray.mk #[], (j : Int), ()), ())) (nl (fun c => !letC c) l) rfl fun j hj k hk => ?_
  unfold Lepactref18_named_0
  simp only [decide_eq_true_eq, gt_iff_lt]
  unfold nameT at h
  rw [nl_any] at h
  by_cases hjl : j < l.length
  · simp only [S_size, S_append, Int.toNat_natCast, bAt_get l j hjl, List.length_append, List.length_singleton, lt]
    refine ifT (by omega) (ifT (by omega) (rletter _ ?_))
    by_cases hlt : j < nl (fun c => !letC c) l
    · have hg := (nl_spec (fun c => !letC c) l j hjl).1 hlt
      refine ifF (by simpa using hg) ?_
      rw [w64_in (by omega) (by omega)]
      exact hk hlt
    · have hg := (nl_spec (fun c => !letC c) l j hjl).2 (by omega)
      rw [if_pos (decide_eq_true (by omega))] at h
      refine ifT (by simpa using hg) (ifF (by omega) (ifF (by omega) ?_))
      simpa using h
  · rw [if_neg (by simp; omega)] at h
    exact ifF (by rw [S_size]; omega) h
theorem rcut (l : List UInt8) (c : UInt8) (hl : l.length ≤ 140737488351232) {K} (h : K (S (splitL c l).1) (S (splitL c l).2.1) (splitL c l).2.2) : Xepactref05_Cut (S l) (S [c]) K := by
  unfold Xepactref05_Cut Yepactref05_Cut
  have hn := nl_le (· == c) l
  refine lp_at (fun j : Nat => ((S l, S [c], ByteArray.mk #[], ByteArray.mk #[], false, (j : Int), ()), ())) (nl (· == c) l) rfl fun j hj k hk => ?_
  unfold Lepactref05_Cut_0
  unfold splitL at h
  simp only [decide_eq_true_eq, S_size, S_extract, S_toList, List.length_singleton]
  rw [w64_in (n := (j : Int) + ((1 : Nat) : Int)) (by omega) (by omega)]
  by_cases hjl : j < l.length
  · refine ifT (by omega) (ifT (by simp) (ifT (by omega) (ifT (by omega) ?_)))
    have e1 : Int.toNat ((j : Int) + ((1 : Nat) : Int)) = j + 1 := by omega
    have e2 : (l.drop j).take (j + 1 - j) = [l[j]] := by
      rw [List.drop_eq_getElem_cons hjl, show j + 1 - j = 1 by omega]; rfl
    simp only [lt, e1, Int.toNat_natCast, e2, List.drop_zero, Nat.sub_zero, take_all]
    by_cases hlt : j < nl (· == c) l
    · have hg := (nl_spec (· == c) l j hjl).1 hlt
      refine ifF (by simpa using hg) ?_
      rw [w64_in (n := (j : Int) + 1) (by omega) (by omega)]
      exact hk hlt
    · have hg := (nl_spec (· == c) l j hjl).2 (by omega)
      have ej : nl (· == c) l = j := by omega
      rw [ej, if_pos hjl] at h
      refine ifT (by simpa using hg) (ifT (by omega) (ifT (by omega) (ifT (by omega) (ifT (by omega) h))))
  · rw [if_neg (by omega)] at h
    exact ifF (by omega) h
theorem rname (l : List UInt8) (hl : l.length ≤ 140737488351232) {K} (h : K (S (nameP l).1) (S (nameP l).2.2) (nameP l).2.1) : Xepactref18_name (S l) K := by
  unfold Xepactref18_name Yepactref18_name
  have hn := nl_le (fun c => !letC c) l
  have key : (l.head? = some 60 → False) → Eng.lp (Lepactref18_name_0 Xepactref18_letter Xepactref14_Right K) ((S l, ByteArray.mk #[], ByteArray.mk #[], false, (0 : Int), ()), ()) := by
    intro h60
    unfold nameP at h
    rw [if_neg h60] at h
    refine lp_at (fun j : Nat => ((S l, ByteArray.mk #[], ByteArray.mk #[], false, (j : Int), ()), ())) (nl (fun c => !letC c) l) rfl fun j hj k hk => ?_
    unfold Lepactref18_name_0
    simp only [decide_eq_true_eq]
    by_cases hjl : j < l.length
    · simp only [S_size, S_extract, Int.toNat_natCast, bAt_get l j hjl, List.drop_zero, Nat.sub_zero, take_all]
      refine ifT (by omega) (ifT (by omega) (rletter _ ?_))
      by_cases hlt : j < nl (fun c => !letC c) l
      · have hg := (nl_spec (fun c => !letC c) l j hjl).1 hlt
        refine ifT (by simpa using hg) ?_
        rw [w64_in (by omega) (by omega)]
        exact hk hlt
      · have hg := (nl_spec (fun c => !letC c) l j hjl).2 (by omega)
        have ej : nl (fun c => !letC c) l = j := by omega
        rw [ej] at h
        refine ifF (by simpa using hg) (ifT (by omega) (ifT (by omega) (rabbr _ (by rw [List.length_take]; omega) (ifT (by omega) (ifT (by omega) (ifT (by omega) (ifT (by omega) h)))))))
    · simp only [S_size, S_extract, Int.toNat_natCast, List.drop_zero, Nat.sub_zero, take_all]
      have ej : nl (fun c => !letC c) l = j := by omega
      rw [ej] at h
      exact ifF (by omega) (ifT (by omega) (ifT (by omega) (rabbr _ (by rw [List.length_take]; omega) (ifT (by omega) (ifT (by omega) (ifT (by omega) (ifT (by omega) h)))))))
  cases l with
  | nil => exact ifF (by decide) (key (by simp))
  | cons c r =>
    have hs : (↑(ByteArray.size (S (c :: r))) : Int) = (r.length : Int) + 1 := by rw [S_size]; rfl
    rw [drop1, bAt0, hs]
    simp only [decide_eq_true_eq, gt_iff_lt, beq_iff_eq]
    simp only [List.length_cons] at hl
    refine ifT (by omega) (ifT (by omega) (ifC (fun e => ?_) fun e => ?_))
    · have : c = 60 := u8_of e
      subst this
      have e0 : nameP (60 :: r) = ((splitL 62 r).1, (splitL 62 r).2.2 && abbrL (splitL 62 r).1, (splitL 62 r).2.1) := by
        exact if_pos rfl
      rw [e0] at h
      have hle : (splitL 62 r).1.length ≤ r.length := by
        unfold splitL; split
        · rw [List.length_take]; omega
        · exact Nat.le_refl _
      refine ifT (by omega) (ifT (by omega) (rcut r 62 (by omega) (rabbr _ (by omega) ?_)))
      by_cases e2 : (splitL 62 r).2.2 = true
      · rw [e2, Bool.true_and] at h
        exact ifT e2 h
      · rw [Bool.eq_false_iff.2 e2, Bool.false_and] at h
        exact ifF e2 h
    · exact key fun h => e (by simp at h; rw [h]; rfl)
theorem rchecked (f : Ft) (h1 : f.sa.length ≤ 140737488351232) (h2 : f.wa.length ≤ 140737488351232) {K} (h : K (tupFt f.chk.1) f.chk.2) : Xepactref18_checked (tupFt f) K := by
  unfold Xepactref18_checked Yepactref18_checked
  refine rfootRight f h1 h2 ?_
  unfold Ft.chk at h
  by_cases e : f.ok = true
  · rw [if_pos e] at h
    exact ifF (by simp [e]) h
  · rw [if_neg e] at h
    exact ifT (by simpa using e) h
theorem time_same (l : List UInt8) (h : ¬ (timeL l).2.2 = true) : (timeL l).2.1 = l := by
  obtain ⟨j, _, e, _, _, _, h0⟩ := time_drop l
  rw [e, (h0 (by simpa using h)).2]; rfl
theorem rfootText (f : Ft) (h1 : f.sa.length ≤ 140737488351232) (h2 : f.wa.length ≤ 140737488351232) {K} (h : K (S f.text.1) f.text.2) : Xepactref18_Text (tupFt f) K := by
  unfold Xepactref18_Text Yepactref18_Text
  refine rfootRight f h1 h2 ?_
  unfold Ft.text at h
  by_cases e : f.ok = true
  · rw [if_pos e] at h
    refine ifF (by simp [e]) ?_
    unfold Ft.ok at e
    rw [Bool.and_eq_true] at e
    obtain ⟨e1, e2⟩ := e
    obtain ⟨k1, k2, k3, k4⟩ := kind_iff.1 e1
    have l1 := abbr_len k1
    have l2 := clockL_len (-f.so)
    have l3 := nameT_len (l := f.sa)
    simp only [Int.zero_sub]
    rw [w64_in (n := -f.so) (by omega) (by omega)]
    refine rclock _ (rnamed _ (by omega) ?_)
    unfold Ft.txt at h
    simp only [S_size, S_append, List.length_append, lt]
    refine ifF (by omega) ?_
    by_cases eh : f.has = true
    · rw [if_pos eh] at h e2
      rw [Bool.and_eq_true, Bool.and_eq_true] at e2
      obtain ⟨⟨e2, e3⟩, e4⟩ := e2
      obtain ⟨j1, j2, j3, j4⟩ := kind_iff.1 e2
      have m1 := abbr_len j1
      have m2 := clockL_len (-f.wo)
      have m3 := nameT_len (l := f.wa)
      have m4 := textL_len f.fr.k f.fr.a f.fr.b f.fr.c f.fr.x
      have m5 := textL_len f.to.k f.to.a f.to.b f.to.c f.to.x
      refine ifF (by simp [eh]) (rnamed _ (by omega) ?_)
      simp only [S_size, S_append, List.length_append, lt, bne_iff_ne, ne_eq, List.length_singleton]
      refine ifF (by omega) ?_
      rw [w64_in (n := f.so + 3600) (by omega) (by omega), w64_in (n := -f.wo) (by omega) (by omega)]
      unfold Ru.txt at h
      by_cases es : f.wo - f.so = 3600
      · rw [if_neg (fun h => h es)] at h
        refine ifF (fun h => h (by omega)) (rruleText _ _ _ _ _ (rruleText _ _ _ _ _ ?_))
        simp only [S_size, S_append, List.length_append, lt, List.length_singleton]
        refine ifF (by omega) (ifF (by omega) (ifF (by omega) (ifF (by omega) ?_)))
        simpa [List.append_assoc] using h
      · rw [if_pos es] at h
        refine ifT (by omega) (rclock _ ?_)
        simp only [S_size, S_append, List.length_append, lt, List.length_singleton]
        refine ifF (by omega) (rruleText _ _ _ _ _ (rruleText _ _ _ _ _ ?_))
        simp only [S_size, S_append, List.length_append, lt, List.length_singleton]
        refine ifF (by omega) (ifF (by omega) (ifF (by omega) (ifF (by omega) ?_)))
        simpa [List.append_assoc] using h
    · rw [if_neg eh] at h
      refine ifT (by simpa using eh) ?_
      simpa using h
  · rw [if_neg e] at h
    exact ifT (by simpa using e) h
theorem rfootSpan (f : Ft) (y : Int) (h1 : f.sa.length ≤ 140737488351232) (h2 : f.wa.length ≤ 140737488351232) {K} (h : ∀ a b ok, (f.spans y ∧ a = f.from' y ∧ b = f.to' y ∧ ok = true) ∨ (¬ f.spans y ∧ a = 0 ∧ b = 0 ∧ ok = false) → K a b ok) : Xepactref18_Span (tupFt f) y K := by
  unfold Xepactref18_Span Yepactref18_Span
  refine rfootRight f h1 h2 ?_
  by_cases e : f.ok = true
  · refine ifF (by simp [e]) ?_
    by_cases eh : f.has = true
    · refine ifF (by simp [eh]) ?_
      have e' := e
      unfold Ft.ok at e'
      rw [if_pos eh, Bool.and_eq_true, Bool.and_eq_true, Bool.and_eq_true] at e'
      obtain ⟨e0, ⟨e1, e2⟩, e3⟩ := e'
      obtain ⟨k1, k2, k3, k4⟩ := kind_iff.1 e0
      obtain ⟨j1, j2, j3, j4⟩ := kind_iff.1 e1
      have r1 := (right_iff _ _ _ _ _).1 e2
      have r2 := (right_iff _ _ _ _ _).1 e3
      by_cases ey : 1 ≤ y ∧ y ≤ 9999
      · have hsp : f.spans y := ⟨eh, e, ey.1, ey.2⟩
        have d1 := ruleDay_bd ey e2
        have d2 := ruleDay_bd ey e3
        have hf := fst_bd ey.1 ey.2
        have hf2 := fst_succ y
        refine rruleAtR f.fr y (ifT ⟨ey, e2⟩ (rruleAtR f.to y (ifT ⟨ey, e3⟩ (ifF (by simp) ?_))))
        refine h _ _ _ (.inl ⟨hsp, ?_, ?_, rfl⟩)
        · show w64 (f.fr.at y - f.so) = _
          unfold Ft.from'
          unfold Ru.at
          rw [w64_in (by omega) (by omega)]
        · show w64 (f.to.at y - f.wo) = _
          unfold Ft.to'
          unfold Ru.at
          rw [w64_in (by omega) (by omega)]
      · exact rruleAtR f.fr y (ifF (fun h => ey h.1) (rruleAtR f.to y (ifF (fun h => ey h.1) (ifT rfl (h _ _ _ (.inr ⟨fun h => ey ⟨h.2.2.1, h.2.2.2⟩, rfl, rfl, rfl⟩))))))
    · exact ifT (by simpa using eh) (h _ _ _ (.inr ⟨fun h => eh h.1, rfl, rfl, rfl⟩))
  · exact ifT (by simpa using e) (h _ _ _ (.inr ⟨fun h => e h.2.1, rfl, rfl, rfl⟩))
theorem rfootLookup (f : Ft) (p : Int) (hp : i64 p) (ho : i64 f.so) (h1 : f.sa.length ≤ 140737488351232) (h2 : f.wa.length ≤ 140737488351232) {K} (h : if f.sum p then K (f.wo, f.wd, S f.wa, ()) else K (f.so, f.sd, S f.sa, ())) : Xepactref18_Lookup (tupFt f) p K := by
  unfold Xepactref18_Lookup Yepactref18_Lookup
  refine radd _ _ hp ho ?_
  have std : ¬ f.sum p → K (f.so, f.sd, S f.sa, ()) := fun hn => by rw [if_neg hn] at h; exact h
  have dst : f.sum p → K (f.wo, f.wd, S f.wa, ()) := fun hn => by rw [if_pos hn] at h; exact h
  unfold i64 at hp ho
  have rest : ∀ (n : Int) (ok : Bool), i64 n → ((ok = true ∧ n = p + f.so) ∨ (ok = false ∧ ¬ f.sum p)) → (fun (r2 : Int) (r3 : Bool) => Xepactref01_Div r2 86400 (fun r4 r5 r6 => Xepactref03_Date r4 (fun r7 r8 r9 r10 => Xepactref18_Span (tupFt f) r7 (fun r11 r12 r13 =>
      if (!r3) = true then K (f.so, f.sd, S f.sa, ()) else if (!r10) = true then K (f.so, f.sd, S f.sa, ()) else if (!r13) = true then K (f.so, f.sd, S f.sa, ()) else
        if decide (r11 < r12) = true then
          (if decide (p ≥ r11) = true then (if decide (p < r12) = true then K (f.wo, f.wd, S f.wa, ()) else if decide (r11 ≥ r12) = true then (if decide (p ≥ r11) = true then K (f.wo, f.wd, S f.wa, ()) else if decide (p < r12) = true then K (f.wo, f.wd, S f.wa, ()) else K (f.so, f.sd, S f.sa, ())) else K (f.so, f.sd, S f.sa, ()))
            else if decide (r11 ≥ r12) = true then (if decide (p ≥ r11) = true then K (f.wo, f.wd, S f.wa, ()) else if decide (p < r12) = true then K (f.wo, f.wd, S f.wa, ()) else K (f.so, f.sd, S f.sa, ())) else K (f.so, f.sd, S f.sa, ()))
        else if decide (r11 ≥ r12) = true then (if decide (p ≥ r11) = true then K (f.wo, f.wd, S f.wa, ()) else if decide (p < r12) = true then K (f.wo, f.wd, S f.wa, ()) else K (f.so, f.sd, S f.sa, ())) else K (f.so, f.sd, S f.sa, ()))))) n ok := by
    intro n ok hn hok
    unfold i64 at hn
    refine rdiv _ _ (by omega) (by omega) (by omega) (by omega) (rdate _ ?_)
    by_cases ed : -719162 ≤ n / 86400 ∧ n / 86400 ≤ 2932896
    · refine ifT ed (rfootSpan f _ h1 h2 fun a b is hsp => ?_)
      rcases hok with ⟨rfl, rfl⟩ | ⟨rfl, hno⟩
      · refine ifF (by simp) (ifF (by simp) ?_)
        rcases hsp with ⟨es, rfl, rfl, rfl⟩ | ⟨es, rfl, rfl, rfl⟩
        · refine ifF (by simp) ?_
          have hs : f.sum p ↔ ((f.from' (yearP ((p + f.so) / 86400)) ≤ p ∧ p < f.to' (yearP ((p + f.so) / 86400))) ∨ (f.to' (yearP ((p + f.so) / 86400)) ≤ f.from' (yearP ((p + f.so) / 86400)) ∧ (f.from' (yearP ((p + f.so) / 86400)) ≤ p ∨ p < f.to' (yearP ((p + f.so) / 86400))))) :=
            ⟨fun h => h.2.2, fun h => ⟨ed, es, h⟩⟩
          simp only [decide_eq_true_eq, ge_iff_le]
          generalize f.from' (yearP ((p + f.so) / 86400)) = a at *
          generalize f.to' (yearP ((p + f.so) / 86400)) = b at *
          repeat' (first | refine ifC (fun _ => ?_) (fun _ => ?_) | (refine dst (hs.2 ?_); omega) | (refine std (fun h => ?_); have := hs.1 h; omega))
        · exact ifT (by simp) (std fun h => es h.2.1)
      · exact ifT (by simp) (std hno)
    · refine ifF ed (rfootSpan f _ h1 h2 fun a b is hsp => ?_)
      have hno : ¬ f.sum p := by
        rcases hok with ⟨_, rfl⟩ | ⟨_, hno⟩
        · exact fun h => ed h.1
        · exact hno
      exact ifC (fun _ => std hno) fun _ => ifT (by simp) (std hno)
  by_cases e : -9223372036854775808 ≤ p + f.so ∧ p + f.so ≤ 9223372036854775807
  · exact ifT e (rest _ _ e (.inl ⟨rfl, rfl⟩))
  · exact ifF e (rest _ _ ⟨by omega, by omega⟩ (.inr ⟨rfl, fun h => e (by have := h.1; unfold inDays at this; omega)⟩))
end Go.Proofs.YtcopbcfekmbhlaaGreatDoor
end
section
set_option linter.unusedVariables false
set_option linter.unusedSimpArgs false
namespace Go.Proofs.YtcopbcfekmbhlaaGreatDoor
open Go Go.Proofs.YtcopbcfekmbhlaaGreatDoor.Eng Go.Proofs.YtcopbcfekmbhlaaGreatDoor.Pl
set_option linter.unusedVariables false
set_option linter.unusedSimpArgs false

theorem rule_cons (r : List UInt8) : ruleP (44 :: r) = ⟨(parseL r).2.2.2.2.2.2 && true, (parseL r).2.2.2.2.2.1, ⟨(parseL r).1, (parseL r).2.1, (parseL r).2.2.1, (parseL r).2.2.2.1, (parseL r).2.2.2.2.1⟩⟩ := rfl
theorem rule_no (l : List UInt8) (h : l.head? ≠ some 44) : (ruleP l).ok = false := by
  unfold ruleP cutP
  rw [if_neg h]
  simp
theorem parse_len (l : List UInt8) : (parseL l).2.2.2.2.2.1.length ≤ l.length := by
  cases e : (parseL l).2.2.2.2.2.2
  · rw [parse_bad _ e]; exact Nat.le_refl _
  · obtain ⟨_, j, _, h1, h2⟩ := parse_good _ e
    rw [h2, List.length_drop]; omega
/-- Two rules behind commas, and the end. -/
theorem rfootRules (so : Int) (sa : List UInt8) (wo : Int) (wa : List UInt8) (l : List UInt8) (hl : l.length ≤ 140737488351232) (h1 : sa.length ≤ 140737488351232) (h2 : wa.length ≤ 140737488351232) {K : Int × Bool × ByteArray × Int × Bool × ByteArray × Bool × Int × Int × Int × Int × Int × Int × Int × Int × Int × Int × Unit → Bool → Prop}
    (hz : ((ruleP l).ok = true → (ruleP (ruleP l).rest).ok = true → (ruleP (ruleP l).rest).rest = [] → False) → K ((0 : Int), false, ByteArray.mk #[], (0 : Int), false, ByteArray.mk #[], false, (0 : Int), (0 : Int), (0 : Int), (0 : Int), (0 : Int), (0 : Int), (0 : Int), (0 : Int), (0 : Int), (0 : Int), ()) false)
    (hk : (ruleP l).ok = true → (ruleP (ruleP l).rest).ok = true → (ruleP (ruleP l).rest).rest = [] → K (tupFt (Ft.chk ⟨so, false, sa, wo, true, wa, true, (ruleP l).r, (ruleP (ruleP l).rest).r⟩).1) (Ft.chk ⟨so, false, sa, wo, true, wa, true, (ruleP l).r, (ruleP (ruleP l).rest).r⟩).2) :
    (if ((↑(ByteArray.size (S l)) : Int) == (0 : Int)) = true then K ((0 : Int), false, ByteArray.mk #[], (0 : Int), false, ByteArray.mk #[], false, (0 : Int), (0 : Int), (0 : Int), (0 : Int), (0 : Int), (0 : Int), (0 : Int), (0 : Int), (0 : Int), (0 : Int), ()) false else if (0 : Int) ≤ (0 : Int) ∧ (0 : Int) < (↑(ByteArray.size (S l)) : Int) then
      (if (Eng.bAt (S l) (0 : Nat) != (44 : Int)) = true then K ((0 : Int), false, ByteArray.mk #[], (0 : Int), false, ByteArray.mk #[], false, (0 : Int), (0 : Int), (0 : Int), (0 : Int), (0 : Int), (0 : Int), (0 : Int), (0 : Int), (0 : Int), (0 : Int), ()) false else if (0 : Int) ≤ (↑(ByteArray.size (S l)) : Int) ∧ (↑(ByteArray.size (S l)) : Int) ≤ (↑(ByteArray.size (S l)) : Int) then
        (if (0 : Int) ≤ (1 : Int) ∧ (1 : Int) ≤ (↑(ByteArray.size (S l)) : Int) then
          Xepactref17_Parse (ByteArray.extract (S l) (1 : Nat) (Int.toNat (↑(ByteArray.size (S l)) : Int))) (fun r16 r17 r18 =>
            (if (!r18) = true then K ((0 : Int), false, ByteArray.mk #[], (0 : Int), false, ByteArray.mk #[], false, (0 : Int), (0 : Int), (0 : Int), (0 : Int), (0 : Int), (0 : Int), (0 : Int), (0 : Int), (0 : Int), (0 : Int), ()) false else if ((↑(ByteArray.size r17) : Int) == (0 : Int)) = true then K ((0 : Int), false, ByteArray.mk #[], (0 : Int), false, ByteArray.mk #[], false, (0 : Int), (0 : Int), (0 : Int), (0 : Int), (0 : Int), (0 : Int), (0 : Int), (0 : Int), (0 : Int), (0 : Int), ()) false else if (0 : Int) ≤ (0 : Int) ∧ (0 : Int) < (↑(ByteArray.size r17) : Int) then
              (if (Eng.bAt r17 (0 : Nat) != (44 : Int)) = true then K ((0 : Int), false, ByteArray.mk #[], (0 : Int), false, ByteArray.mk #[], false, (0 : Int), (0 : Int), (0 : Int), (0 : Int), (0 : Int), (0 : Int), (0 : Int), (0 : Int), (0 : Int), (0 : Int), ()) false else if (0 : Int) ≤ (↑(ByteArray.size r17) : Int) ∧ (↑(ByteArray.size r17) : Int) ≤ (↑(ByteArray.size r17) : Int) then
                (if (0 : Int) ≤ (1 : Int) ∧ (1 : Int) ≤ (↑(ByteArray.size r17) : Int) then
                  Xepactref17_Parse (ByteArray.extract r17 (1 : Nat) (Int.toNat (↑(ByteArray.size r17) : Int))) (fun r19 r20 r21 =>
                    (if (!r21) = true then K ((0 : Int), false, ByteArray.mk #[], (0 : Int), false, ByteArray.mk #[], false, (0 : Int), (0 : Int), (0 : Int), (0 : Int), (0 : Int), (0 : Int), (0 : Int), (0 : Int), (0 : Int), (0 : Int), ()) false else if (!ByteArray.toList r20 == ByteArray.toList (ByteArray.mk #[])) = true then K ((0 : Int), false, ByteArray.mk #[], (0 : Int), false, ByteArray.mk #[], false, (0 : Int), (0 : Int), (0 : Int), (0 : Int), (0 : Int), (0 : Int), (0 : Int), (0 : Int), (0 : Int), (0 : Int), ()) false else
                      Xepactref18_checked (so, false, S sa, wo, true, S wa, true, r16.1, r16.2.1, r16.2.2.1, r16.2.2.2.1, r16.2.2.2.2.1, r19) (fun r22 r23 => K r22 r23)))
                  else False) else False) else False))
          else False) else False) else False) := by
  cases l with
  | nil => exact ifT rfl (hz fun h => by rw [rule_no [] (by simp)] at h; cases h)
  | cons c r =>
    have hs : (↑(ByteArray.size (S (c :: r))) : Int) = (r.length : Int) + 1 := by rw [S_size]; rfl
    rw [drop1, bAt0, hs]
    simp only [List.length_cons] at hl
    simp only [beq_iff_eq, bne_iff_ne, ne_eq]
    refine ifF (by omega) (ifT (by omega) (ifC (fun e => hz fun h => ?_) fun e => ?_))
    · rw [rule_no (c :: r) (fun h => by simp at h; subst h; exact e rfl)] at h; cases h
    · have : c = 44 := u8_of (d := 44) (Classical.not_not.1 e)
      subst this
      rw [rule_cons] at hz hk
      have hp := parse_len r
      refine ifT (by omega) (ifT (by omega) (rruleParse r (by omega) ?_))
      generalize parseL r = q at *
      obtain ⟨q1, q2, q3, q4, q5, q6, q7⟩ := q
      simp only [Bool.and_true] at hz hk hp ⊢
      cases q7
      · exact ifT rfl (hz fun h => by cases h)
      · refine ifF (by simp) ?_
        cases q6 with
        | nil => exact ifT rfl (hz fun _ h => by rw [rule_no [] (by simp)] at h; cases h)
        | cons d t =>
          have hs : (↑(ByteArray.size (S (d :: t))) : Int) = (t.length : Int) + 1 := by rw [S_size]; rfl
          rw [drop1, bAt0, hs]
          simp only [List.length_cons] at hp
          refine ifF (by omega) (ifT (by omega) (ifC (fun e => hz fun _ h => ?_) fun e => ?_))
          · rw [rule_no (d :: t) (fun h => by simp at h; subst h; exact e rfl)] at h; cases h
          · have : d = 44 := u8_of (d := 44) (Classical.not_not.1 e)
            subst this
            rw [rule_cons] at hz hk
            refine ifT (by omega) (ifT (by omega) (rruleParse t (by omega) ?_))
            generalize parseL t = p at *
            obtain ⟨p1, p2, p3, p4, p5, p6, p7⟩ := p
            simp only [Bool.and_true] at hz hk ⊢
            cases p7
            · exact ifT rfl (hz fun _ h => by cases h)
            · refine ifF (by simp) ?_
              rw [S_toList]
              by_cases e6 : p6 = []
              · subst e6
                have e0 : (ByteArray.mk #[]).toList = [] := S_toList []
                rw [e0]
                refine ifF (by simp) ?_
                exact rchecked ⟨so, false, sa, wo, true, wa, true, ⟨q1, q2, q3, q4, q5⟩, ⟨p1, p2, p3, p4, p5⟩⟩ h1 h2 (hk (by trivial) (by trivial) (by trivial))
              · have e0 : (ByteArray.mk #[]).toList = [] := S_toList []
                rw [e0]
                exact ifT (by simp [e6]) (hz fun _ _ h => e6 h)
theorem rfootParse (l : List UInt8) (hl : l.length ≤ 140737488351232) {K} (h : K (tupFt (Ft.parse l).1) (Ft.parse l).2) : Xepactref18_Parse (S l) K := by
  unfold Xepactref18_Parse Yepactref18_Parse
  have hn := name_len l
  have ht := time_bd (nameP l).2.2
  refine rname l hl (rtime _ (by omega) ?_)
  rw [w64_in (n := 0 - (timeL (nameP l).2.2).1) (by omega) (by omega), Int.zero_sub]
  unfold Ft.parse at h
  have hu : usualP l = ⟨(nameP l).2.1 && (timeL (nameP l).2.2).2.2, (timeL (nameP l).2.2).2.1, -(timeL (nameP l).2.2).1, (nameP l).1⟩ := rfl
  rw [hu] at h
  simp only at h
  by_cases e1 : (nameP l).2.1 = true
  · refine ifF (by simp [e1]) ?_
    by_cases e2 : (timeL (nameP l).2.2).2.2 = true
    · rw [if_pos (by simp [e1, e2])] at h
      refine ifF (by simp [e2]) ?_
      clear hu
      generalize (timeL (nameP l).2.2).1 = n at h ht ⊢
      generalize (timeL (nameP l).2.2).2.1 = rest at h ht ⊢
      have e0 : (ByteArray.mk #[]).toList = [] := S_toList []
      by_cases e3 : rest = []
      · rw [if_pos e3] at h
        refine ifT (by rw [S_toList, e0]; simp [e3]) (rchecked ⟨-n, false, (nameP l).1, 0, false, [], false, .z, .z⟩ (by simp only; omega) (by simp) h)
      · rw [if_neg e3] at h
        have hn2 := name_len rest
        have ht2 := time_bd (nameP rest).2.2
        refine ifF (by rw [S_toList, e0]; simp [e3]) (rname rest (by omega) ?_)
        rw [w64_in (n := -n + 3600) (by omega) (by omega)]
        refine rtime _ (by omega) ?_
        by_cases e5 : (timeL (nameP rest).2.2).2.2 = true
        · have hs : summerP (-n) rest = ⟨(nameP rest).2.1, (timeL (nameP rest).2.2).2.1, -(timeL (nameP rest).2.2).1, (nameP rest).1⟩ := if_pos e5
          rw [hs] at h
          simp only at h
          refine ifT e5 ?_
          by_cases e6 : (nameP rest).2.1 = true
          · rw [if_pos e6] at h
            rw [w64_in (n := 0 - (timeL (nameP rest).2.2).1) (by omega) (by omega), Int.zero_sub]
            refine ifF (by simp [e6]) (rfootRules (-n) (nameP l).1 _ (nameP rest).1 _ (by omega) (by omega) (by omega) (fun hz => ?_) fun h1 h2 h3 => ?_)
            · by_cases c1 : (ruleP (timeL (nameP rest).2.2).2.1).ok = true
              · rw [if_pos c1] at h
                by_cases c2 : (ruleP (ruleP (timeL (nameP rest).2.2).2.1).rest).ok = true
                · rw [if_pos c2, if_neg (fun c3 => hz c1 c2 c3)] at h; exact h
                · rw [if_neg c2] at h; exact h
              · rw [if_neg c1] at h; exact h
            · rw [if_pos h1, if_pos h2, if_pos h3] at h; exact h
          · rw [if_neg e6] at h
            exact ifT (by simpa using e6) h
        · have hs : summerP (-n) rest = ⟨(nameP rest).2.1, (nameP rest).2.2, -n + 3600, (nameP rest).1⟩ := if_neg e5
          rw [hs] at h
          simp only at h
          have hsame := time_same _ e5
          rw [hsame]
          refine ifF e5 ?_
          by_cases e6 : (nameP rest).2.1 = true
          · rw [if_pos e6] at h
            refine ifF (by simp [e6]) (rfootRules (-n) (nameP l).1 _ (nameP rest).1 _ (by omega) (by omega) (by omega) (fun hz => ?_) fun h1 h2 h3 => ?_)
            · by_cases c1 : (ruleP (nameP rest).2.2).ok = true
              · rw [if_pos c1] at h
                by_cases c2 : (ruleP (ruleP (nameP rest).2.2).rest).ok = true
                · rw [if_pos c2, if_neg (fun c3 => hz c1 c2 c3)] at h; exact h
                · rw [if_neg c2] at h; exact h
              · rw [if_neg c1] at h; exact h
            · rw [if_pos h1, if_pos h2, if_pos h3] at h; exact h
          · rw [if_neg e6] at h
            exact ifT (by simpa using e6) h
    · rw [if_neg (by simp [e2])] at h
      exact ifT (by simpa using e2) h
  · rw [if_neg (by simp [e1])] at h
    exact ifT (by simpa using e1) h
set_option maxRecDepth 100000 in
theorem lFootTells (f : Ft) (s : List UInt8) (y p : Int) (hy : i64 y) (hp : i64 p) (ho : i64 f.so) {K} (h : K true) : Xepactlaw18_FootTells (tupFt f) (S s) y p K := by
  rw [Xepactlaw18_FootTells, Yepactlaw18_FootTells]
  refine ssmall (ifC (fun _ => h) fun hs => ifC (fun _ => h) fun h1 => ifC (fun _ => h) fun h2 => ?_)
  have hs : s.length ≤ 200 := by rw [S_size] at hs; simp at hs; omega
  have h1 : f.sa.length ≤ 100 := by
    have h1 : ¬ decide ((↑(ByteArray.size (S f.sa)) : Int) > (100 : Int)) = true := h1
    rw [S_size] at h1; simp at h1; omega
  have h2 : f.wa.length ≤ 100 := by
    have h2 : ¬ decide ((↑(ByteArray.size (S f.wa)) : Int) > (100 : Int)) = true := h2
    rw [S_size] at h2; simp at h2; omega
  refine sfootText f (rfootText f (by omega) (by omega) (sfootParse s (by omega) (rfootParse s (by omega) ?_)))
  refine sSpan f y fun a b ok hsp => rfootSpan f y (by omega) (by omega) fun a' b' ok' hsp' => ?_
  have e : a' = a ∧ b' = b ∧ ok' = ok := by
    rcases hsp with ⟨s1, rfl, rfl, rfl⟩ | ⟨s1, rfl, rfl, rfl⟩ <;> rcases hsp' with ⟨s2, rfl, rfl, rfl⟩ | ⟨s2, rfl, rfl, rfl⟩
    · exact ⟨rfl, rfl, rfl⟩
    · exact absurd s1 s2
    · exact absurd s2 s1
    · exact ⟨rfl, rfl, rfl⟩
  obtain ⟨rfl, rfl, rfl⟩ := e
  simp only [lt]
  refine ifF (by simp) (ifF (by simp) (ifF (by simp) (ifF (by simp) (ifF (by simp) (ifF (by simp) (ifF (by simp) ?_))))))
  refine sfootRight f (rfootRight f (by omega) (by omega) (ifF (by simp) (ifT trivial (rfootRight f (by omega) (by omega) (ifC (fun _ => h) fun hr => ?_)))))
  refine sLook f p hp ho fun r hr => rfootLookup f p hp ho (by omega) (by omega) ?_
  rcases hr with ⟨hs, rfl⟩ | ⟨hs, rfl⟩
  · exact ifT hs (toB h (by simp))
  · exact ifF hs (toB h (by simp))
end Go.Proofs.YtcopbcfekmbhlaaGreatDoor
end
section
set_option linter.unusedVariables false
set_option linter.unusedSimpArgs false
namespace Go.Proofs.YtcopbcfekmbhlaaGreatDoor
open Go Go.Proofs.YtcopbcfekmbhlaaGreatDoor.Eng Go.Proofs.YtcopbcfekmbhlaaGreatDoor.Pl
theorem forFt2 {P : Int → Prop} {Q : Int × Bool × ByteArray × Int × Bool × ByteArray × Bool × Int × Int × Int × Int × Int × Int × Int × Int × Int × Int × Unit → Prop} (h : ∀ f : Ft, P f.so → Q (tupFt f)) (a) (ha : P a.1) : Q a := by
  obtain ⟨f, rfl⟩ := tupFt_all a
  exact h f ha
theorem pureFootTells : PureFootTells := by
  unfold PureFootTells
  intro a0_0 a0_1 a0_2 a0_3 a0_4 a0_5 a0_6 a0_7 a0_8 a0_9 a0_10 a0_11 a0_12 a0_13 a0_14 a0_15 a0_16 a1 a2 a3 h0
  intros
  refine forFt2 (P := i64) (Q := fun t => Xepactlaw18_FootTells t _ _ _ _) (fun f ho => ?_) _ (wf64 h0)
  rw [of_S a1]
  exact lFootTells f _ _ _ (wf64 (by assumption)) (wf64 (by assumption)) ho rfl
end Go.Proofs.YtcopbcfekmbhlaaGreatDoor
end
