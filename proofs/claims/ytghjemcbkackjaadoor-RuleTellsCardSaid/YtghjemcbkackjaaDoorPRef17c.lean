/- The document's own answer for rules (numbers, whole rules, texts). -/
import Derived.Test.YtghjemcbkackjaaDoorPRef17b
namespace Go.Proofs.YtghjemcbkackjaaDoor.T
open Go.RowKit Go.Proofs.YtghjemcbkackjaaDoorW.PrintWords Go.Proofs.YtghjemcbkackjaaDoor.F Go.Proofs.YtghjemcbkackjaaDoor.P
set_option linter.unusedVariables false
set_option linter.unusedSimpArgs false

theorem valL_snoc (a : List UInt8) (c : UInt8) : valL (a ++ [c]) = 10 * valL a + (c.toNat - 48) := by simp [valL, List.foldl_append]
theorem take_succ_at (l : List UInt8) (j : Nat) (h : j < l.length) : l.take (j + 1) = l.take j ++ [l[j]] := (List.take_append_getElem h).symm
theorem dl_digit (l : List UInt8) : ∀ j (h : j < dl l), isDig (l[j]'(Nat.lt_of_lt_of_le h (dl_le l))) = true := by
  intro j h
  have hl := dl_le l
  have := take_dl_dig l (j + 1) (by omega)
  rw [take_succ_at l j (by omega)] at this
  exact this _ (List.mem_append_right _ (List.mem_singleton.2 rfl))
theorem dl_stop (l : List UInt8) (h : dl l < l.length) : isDig l[dl l] = false := by
  induction l with
  | nil => simp at h
  | cons a r ih =>
    by_cases ha : isDig a = true
    · have e : dl (a :: r) = dl r + 1 := by rw [dl_cons, if_pos ha]
      have h' : dl r < r.length := by rw [e] at h; simpa using h
      have := ih h'
      simp only [e, List.getElem_cons_succ]
      exact this
    · have e : dl (a :: r) = 0 := by rw [dl_cons, if_neg ha]
      simp only [e, List.getElem_cons_zero]
      simpa using ha
theorem num_loop (l : List UInt8) (m hi : Nat) (hm : m ≤ 3) (k : Nat) : ∀ j, j ≤ dl l → j ≤ m + 1 → epactref17_number.l0 (k + j) (S l) 1 (m : Int) (hi : Int) 0 0 = epactref17_number.l0 k (S l) 1 (m : Int) (hi : Int) (valL (l.take j) : Int) (j : Int)
  | 0, _, _ => rfl
  | j + 1, h1, h2 => by
    have hl := dl_le l
    have hlt : j < l.length := by omega
    have ih := num_loop l m hi hm (k + 1) j (by omega) (by omega)
    rw [show k + (j + 1) = k + 1 + j from by omega, ih]
    have hd := (isDig_iff _).1 (dl_digit l j (by omega))
    have hv := valL_lt (l.take j) (take_dl_dig l j (by omega))
    have h3 : 10 ^ (l.take j).length ≤ 10 ^ 3 := Nat.pow_le_pow_right (by omega) (by rw [List.length_take]; omega)
    simp only [epactref17_number.l0]
    rw [S_sizeI, if_pos (by omega), if_pos (by omega), S_bt l j hlt, if_pos (by omega), if_pos (by omega), if_pos (by omega)]
    have e1 : ((l[j].toNat : Int) - 48) % 256 = ((l[j].toNat - 48 : Nat) : Int) := by omega
    have e2 : wrap64 (10 * (valL (l.take j) : Int)) = ((10 * valL (l.take j) : Nat) : Int) := by rw [wrap_in _ (by omega) (by omega)]; omega
    have e3 : wrap64 (((10 * valL (l.take j) : Nat) : Int) + ((l[j].toNat - 48 : Nat) : Int)) = ((10 * valL (l.take j) + (l[j].toNat - 48) : Nat) : Int) := by rw [wrap_in _ (by omega) (by omega)]; omega
    have e4 : wrap64 ((j : Int) + 1) = ((j + 1 : Nat) : Int) := by rw [wrap_in _ (by omega) (by omega)]; omega
    rw [e1, e2, e3, e4, take_succ_at l j hlt, valL_snoc]
theorem num_end (l : List UInt8) (m hi : Nat) (k i n : Nat) (hi' : i ≤ l.length) (h : i = l.length ∨ m < i ∨ ∃ hlt : i < l.length, isDig l[i] = false) :
    epactref17_number.l0 (k + 1) (S l) 1 (m : Int) (hi : Int) (n : Int) (i : Int) = if i < 1 then some (-1, S l) else if m < i then some (-1, S l) else if hi < n then some (-1, S l) else some ((n : Int), S (l.drop i)) := by
  have fin : (if (i : Int) < 1 then (some ((-1 : Int), S l)) else (if (i : Int) > (m : Int) then (some ((-1), S l)) else (if (n : Int) > (hi : Int) then (some ((-1), S l)) else (if (i : Int) ≤ (l.length : Int) then (some ((n : Int), (S l).extract (i : Int).toNat (S l).size)) else (none))))) = if i < 1 then some (-1, S l) else if m < i then some (-1, S l) else if hi < n then some (-1, S l) else some ((n : Int), S (l.drop i)) := by
    rw [Int.toNat_natCast, S_drop, if_pos (show (i : Int) ≤ (l.length : Int) by omega)]
    by_cases a : i < 1
    · rw [if_pos (by omega), if_pos a]
    · rw [if_neg (by omega), if_neg a]
      by_cases b : m < i
      · rw [if_pos (by omega), if_pos b]
      · rw [if_neg (by omega), if_neg b]
        by_cases c : hi < n
        · rw [if_pos (by omega), if_pos c]
        · rw [if_neg (by omega), if_neg c]
  rw [← fin]
  simp only [epactref17_number.l0]
  rw [S_sizeI]
  by_cases hlt : i < l.length
  · rw [if_pos (by omega), if_pos (by omega), S_bt l i hlt]
    by_cases a1 : (l[i].toNat : Int) ≥ 48
    · rw [if_pos a1]
      by_cases a2 : (l[i].toNat : Int) ≤ 57
      · rw [if_pos a2]
        have hd : isDig l[i] = true := (isDig_iff _).2 (by omega)
        rcases h with h | h | ⟨_, h⟩
        · omega
        · rw [if_neg (show ¬ (i : Int) ≤ (m : Int) by omega)]
        · rw [hd] at h; cases h
      · rw [if_neg a2]
    · rw [if_neg a1]
  · rw [if_neg (show ¬ (i : Int) < (l.length : Int) by omega), if_pos (show 0 ≤ (i : Int) by omega)]
def refNum (l : List UInt8) (m hi : Nat) : Int × List UInt8 := if dl l = 0 ∨ m < dl l ∨ hi < valL (l.take (dl l)) then (-1, l) else ((valL (l.take (dl l)) : Int), l.drop (dl l))
theorem refNum_eq (l : List UInt8) (m hi : Nat) (hm : m ≤ 3) (k : Nat) (hk : 6 ≤ k) : epactref17_number.f k (S l) 1 (m : Int) (hi : Int) = some ((refNum l m hi).1, S (refNum l m hi).2) := by
  have hl := dl_le l
  unfold epactref17_number.f refNum
  by_cases hd : dl l ≤ m
  · obtain ⟨k', rfl⟩ : ∃ j, k = j + 1 + dl l := ⟨k - 1 - dl l, by omega⟩
    rw [num_loop l m hi hm (k' + 1) (dl l) (Nat.le_refl _) (by omega)]
    rw [num_end l m hi k' (dl l) _ hl (by
      by_cases h : dl l = l.length
      · exact Or.inl h
      · exact Or.inr (Or.inr ⟨by omega, dl_stop l (by omega)⟩))]
    by_cases a : dl l = 0
    · rw [if_pos (by omega), if_pos (Or.inl a)]
    · rw [if_neg (by omega), if_neg (by omega)]
      by_cases c : hi < valL (l.take (dl l))
      · rw [if_pos c, if_pos (Or.inr (Or.inr c))]
      · rw [if_neg c, if_neg (by omega)]
  · obtain ⟨k', rfl⟩ : ∃ j, k = j + 1 + (m + 1) := ⟨k - 1 - (m + 1), by omega⟩
    rw [num_loop l m hi hm (k' + 1) (m + 1) (by omega) (Nat.le_refl _)]
    rw [num_end l m hi k' (m + 1) _ (by omega) (Or.inr (Or.inl (by omega))), if_neg (by omega), if_pos (by omega), if_pos (Or.inr (Or.inl (by omega)))]
theorem refNum_yes {l : List UInt8} {m hi : Nat} (h : 0 ≤ (refNum l m hi).1) : numberL l m = ((refNum l m hi).1, (refNum l m hi).2, true) := by
  unfold refNum at h ⊢
  unfold numberL
  by_cases c : dl l = 0 ∨ m < dl l ∨ hi < valL (l.take (dl l))
  · rw [if_pos c] at h; simp at h
  · rw [if_neg c, if_neg (by omega)]
theorem refNum_of {l : List UInt8} {m hi : Nat} (h : (numberL l m).2.2 = true) (hv : (numberL l m).1 ≤ (hi : Int)) : refNum l m hi = ((numberL l m).1, (numberL l m).2.1) := by
  unfold numberL at h hv ⊢
  unfold refNum
  by_cases c : dl l = 0 ∨ m < dl l
  · rw [if_pos c] at h; cases h
  · rw [if_neg c] at hv ⊢
    rw [if_neg (by simp only [] at hv; omega)]
def refDot (l : List UInt8) : Int × List UInt8 := if l.head? = some 46 then refNum l.tail 1 9 else (-1, l)
theorem refDot_eq (l : List UInt8) (k : Nat) (hk : 6 ≤ k) : epactref17_dot.f k (S l) = some ((refDot l).1, S (refDot l).2) := by
  unfold epactref17_dot.f refDot
  rw [S_sizeI]
  match l with
  | [] => rfl
  | c :: r =>
    have hlen : (c :: r).length = r.length + 1 := rfl
    rw [if_neg (by rw [hlen]; omega), if_pos (by rw [hlen]; omega), S_bt0]
    by_cases h : c = 46
    · subst h
      rw [if_pos (by rfl), if_pos (by rw [hlen]; omega), if_pos (by rfl), S_drop]
      have := refNum_eq r 1 9 (by omega) k hk
      simp only [List.drop_succ_cons, List.drop_zero, List.tail_cons]
      rw [show (1 : Int) = ((1 : Nat) : Int) from rfl, show (9 : Int) = ((9 : Nat) : Int) from rfl] at *
      rw [this]; rfl
    · rw [if_neg (fun e => h (u8_eq (by simpa using Int.ofNat_inj.1 e))), if_neg (by simpa using h)]
def refHead (l : List UInt8) : Int × Int × Int × Int × List UInt8 :=
  if l.head? = some 77 then (0, (refNum l.tail 2 12).1, (refDot (refNum l.tail 2 12).2).1, refDot (refDot (refNum l.tail 2 12).2).2)
  else if l.head? = some 74 then (1, (refNum l.tail 3 365).1, 0, 0, (refNum l.tail 3 365).2) else (2, (refNum l 3 365).1, 0, 0, (refNum l 3 365).2)
theorem refHead_eq (l : List UInt8) (k : Nat) (hk : 7 ≤ k) : epactref17_head.f k (S l) = some ((refHead l).1, (refHead l).2.1, (refHead l).2.2.1, (refHead l).2.2.2.1, 7200, S (refHead l).2.2.2.2) := by
  obtain ⟨k, rfl⟩ : ∃ j, k = j + 1 := ⟨k - 1, by omega⟩
  unfold epactref17_head.f refHead
  rw [S_sizeI]
  match l with
  | [] =>
    rw [if_neg (by simp), epactref17_head.j0, if_neg (by decide), S_sizeI, if_neg (by simp)]
    have := refNum_eq [] 3 365 (by omega) k (by omega)
    rw [show (1 : Int) = ((1 : Nat) : Int) from rfl] at *
    rw [show ((3 : Int)) = ((3 : Nat) : Int) from rfl, show ((365 : Int)) = ((365 : Nat) : Int) from rfl, this]
    rfl
  | c :: r =>
    have hlen : (c :: r).length = r.length + 1 := rfl
    have cut : (S (c :: r)).extract 1 (S (c :: r)).size = S r := by rw [S_drop]; rfl
    rw [if_pos (by rw [hlen]; omega), if_pos (by rw [hlen]; omega), S_bt0]
    have h2 := refNum_eq r 2 12 (by omega) k (by omega)
    have h3 := refNum_eq r 3 365 (by omega) k (by omega)
    have h4 := refNum_eq (c :: r) 3 365 (by omega) k (by omega)
    simp only [Int.ofNat_eq_natCast, Int.cast_ofNat_Int] at h2 h3 h4
    by_cases h77 : c = 77
    · subst h77
      rw [show (((77 : UInt8).toNat : Int) == 77) = true from rfl, epactref17_head.j0, if_pos rfl, S_sizeI, if_pos (by rw [hlen]; omega), cut, if_pos (by rfl)]
      simp only [List.tail_cons]
      rw [show epactref17_number.f k (S r) 1 2 12 = some ((refNum r 2 12).1, S (refNum r 2 12).2) from h2]
      simp only [Option.bind_some]
      rw [refDot_eq _ k (by omega)]
      simp only [Option.bind_some]
      rw [refDot_eq _ k (by omega)]
      rfl
    · have n77 : ((c.toNat : Int) == 77) = false := by
        rw [beq_eq_false_iff_ne]
        exact fun h => h77 (u8_eq (by simpa using Int.ofNat_inj.1 h))
      rw [n77, epactref17_head.j0, if_neg (by decide), S_sizeI, if_pos (by rw [hlen]; omega), if_pos (by rw [hlen]; omega), S_bt0, if_neg (show ¬ (c :: r).head? = some 77 by simpa using h77)]
      by_cases h74 : c = 74
      · subst h74
        rw [if_pos (show ((74 : UInt8).toNat : Int) = 74 from rfl), if_pos (show (1 : Int) ≤ ((74 :: r).length : Int) by rw [hlen]; omega), cut, if_pos (show (74 :: r).head? = some 74 from rfl)]
        simp only [List.tail_cons]
        rw [show epactref17_number.f k (S r) 1 3 365 = some ((refNum r 3 365).1, S (refNum r 3 365).2) from h3]
        rfl
      · rw [if_neg (show ¬ ((c.toNat : Int) = 74) from fun h => h74 (u8_eq (by simpa using Int.ofNat_inj.1 h))), if_neg (show ¬ (c :: r).head? = some 74 by simpa using h74)]
        rw [show epactref17_number.f k (S (c :: r)) 1 3 365 = some ((refNum (c :: r) 3 365).1, S (refNum (c :: r) 3 365).2) from h4]
        rfl
end Go.Proofs.YtghjemcbkackjaaDoor.T
