/- What the functions come to in plain data, with proofs, and what that answers. -/
import Derived.Test.YtcopbcfekmbhlaaDoorJFootBack1
import Derived.Lib.Bytealg
section
set_option linter.unusedVariables false
set_option linter.unusedSimpArgs false
namespace Go.Proofs.YtcopbcfekmbhlaaDoor.Pl
open Go
set_option linter.unusedVariables false
set_option linter.unusedSimpArgs false

def rightR (K A B C X : Int) : Bool :=
  decide ((-604799 ≤ X ∧ X ≤ 604799) ∧ ((K = 0 ∧ 1 ≤ A ∧ A ≤ 12 ∧ 1 ≤ B ∧ B ≤ 5 ∧ 0 ≤ C ∧ C ≤ 6) ∨ (K = 1 ∧ 1 ≤ A ∧ A ≤ 365 ∧ B = 0 ∧ C = 0) ∨ (K = 2 ∧ 0 ≤ A ∧ A ≤ 365 ∧ B = 0 ∧ C = 0)))
theorem right_iff (K A B C X : Int) : rightR K A B C X = true ↔ ((-604799 ≤ X ∧ X ≤ 604799) ∧ ((K = 0 ∧ 1 ≤ A ∧ A ≤ 12 ∧ 1 ≤ B ∧ B ≤ 5 ∧ 0 ≤ C ∧ C ≤ 6) ∨ (K = 1 ∧ 1 ≤ A ∧ A ≤ 365 ∧ B = 0 ∧ C = 0) ∨ (K = 2 ∧ 0 ≤ A ∧ A ≤ 365 ∧ B = 0 ∧ C = 0))) := by
  unfold rightR; exact decide_eq_true_iff
/-- The place of a rule's day in its month, from 0 on. -/
def offW (A B C y : Int) : Int := let k := (C - wk (num y A 1) + 7) % 7 + 7 * (B - 1); if k ≥ dim y A then k - 7 else k
def ruleDay (K A B C y : Int) : Int := if K = 2 then fst y + A else if K = 1 then (if A ≤ 59 ∨ leapY y = false then fst y - 1 + A else fst y + A) else num y A 1 + offW A B C y
theorem num_first (y : Int) : num y 1 1 = fst y := by unfold num cum cum0; simp
theorem dim_jan (y : Int) : dim y 1 = 31 := rfl
theorem off_bd {A B C y : Int} (h1 : 1 ≤ B) (h2 : B ≤ 5) : 0 ≤ offW A B C y ∧ offW A B C y < dim y A ∧ offW A B C y % 7 = (C - wk (num y A 1) + 7) % 7 := by
  have hd := dim_bd y A
  have hw : 0 ≤ wk (num y A 1) ∧ wk (num y A 1) < 7 := by unfold wk; omega
  unfold offW
  simp only []
  split <;> omega
theorem ruleDay_bd {K A B C X y : Int} (hy : 1 ≤ y ∧ y ≤ 9999) (hr : rightR K A B C X = true) : fst y ≤ ruleDay K A B C y ∧ ruleDay K A B C y ≤ fst y + 365 := by
  have hr' := (right_iff K A B C X).1 hr
  unfold ruleDay
  split
  · omega
  · split
    · split <;> omega
    · have hK : K = 0 ∧ 1 ≤ A ∧ A ≤ 12 ∧ 1 ≤ B ∧ B ≤ 5 ∧ 0 ≤ C ∧ C ≤ 6 := by omega
      obtain ⟨o1, o2, _⟩ := off_bd (A := A) (C := C) (y := y) hK.2.2.2.1 hK.2.2.2.2.1
      have hv : Vld y A (offW A B C y + 1) := ⟨hy.1, hy.2, hK.2.1, hK.2.2.1, by omega, by omega⟩
      have := num_bd hv
      rw [fst_succ] at this
      have e : num y A (offW A B C y + 1) = num y A 1 + offW A B C y := by unfold num; omega
      rw [e] at this
      split at this <;> omega
def cutP (c : UInt8) (l : List UInt8) : List UInt8 × Bool := if l.head? = some c then (l.tail, true) else (l, false)
theorem cut_drop (c : UInt8) (l : List UInt8) : ∃ j, j ≤ l.length ∧ (cutP c l).1 = l.drop j := by
  unfold cutP
  split
  · cases l with
    | nil => rename_i h; simp at h
    | cons a r => exact ⟨1, by simp, rfl⟩
  · exact ⟨0, by omega, rfl⟩

/-- A number of so many digits at most. -/
def numberL (l : List UInt8) (m : Nat) : Int × List UInt8 × Bool := if dl l = 0 ∨ m < dl l then (0, l, false) else ((valL (l.take (dl l)) : Int), l.drop (dl l), true)
theorem numberL_drop (l : List UInt8) (m : Nat) : ∃ j, j ≤ l.length ∧ (numberL l m).2.1 = l.drop j ∧ ((numberL l m).2.2 = true → 0 < j) := by
  unfold numberL
  split
  · exact ⟨0, by omega, rfl, by simp⟩
  · exact ⟨dl l, dl_le l, rfl, fun _ => by omega⟩
theorem numberL_len (l : List UInt8) (m : Nat) : (numberL l m).2.1.length ≤ l.length := by
  obtain ⟨j, _, e, _⟩ := numberL_drop l m
  rw [e, List.length_drop]; omega
theorem cutL_len (c : UInt8) (l : List UInt8) : (cutP c l).1.length ≤ l.length := by
  obtain ⟨j, _, e⟩ := cut_drop c l
  rw [e, List.length_drop]; omega
theorem numberL_bd (l : List UInt8) (m : Nat) : 0 ≤ (numberL l m).1 ∧ ((numberL l m).1 : Int) < ((10 ^ m : Nat) : Int) := by
  unfold numberL
  have h1 : 0 < 10 ^ m := Nat.pos_of_ne_zero (by simp)
  split
  · simp only []; omega
  · rename_i h
    have hv := valL_lt _ (take_dl_dig l _ (Nat.le_refl _))
    have h2 : 10 ^ (l.take (dl l)).length ≤ 10 ^ m := Nat.pow_le_pow_right (by omega) (by rw [List.length_take]; omega)
    simp only []; omega

def weekL (l : List UInt8) : Int × Int × Int × List UInt8 × Bool :=
  ((numberL l 2).1, (numberL (cutP 46 (numberL l 2).2.1).1 1).1, (numberL (cutP 46 (numberL (cutP 46 (numberL l 2).2.1).1 1).2.1).1 1).1,
    (numberL (cutP 46 (numberL (cutP 46 (numberL l 2).2.1).1 1).2.1).1 1).2.1,
    (numberL l 2).2.2 && (numberL (cutP 46 (numberL l 2).2.1).1 1).2.2 && (numberL (cutP 46 (numberL (cutP 46 (numberL l 2).2.1).1 1).2.1).1 1).2.2 && (cutP 46 (numberL l 2).2.1).2 && (cutP 46 (numberL (cutP 46 (numberL l 2).2.1).1 1).2.1).2)
theorem weekL_drop (l : List UInt8) : ∃ j, j ≤ l.length ∧ (weekL l).2.2.2.1 = l.drop j ∧ ((weekL l).2.2.2.2 = true → 0 < j) := by
  unfold weekL
  obtain ⟨j1, h1, e1, p1⟩ := numberL_drop l 2
  obtain ⟨j2, h2, e2⟩ := cut_drop 46 (numberL l 2).2.1
  obtain ⟨j3, h3, e3, _⟩ := numberL_drop (cutP 46 (numberL l 2).2.1).1 1
  obtain ⟨j4, h4, e4⟩ := cut_drop 46 (numberL (cutP 46 (numberL l 2).2.1).1 1).2.1
  obtain ⟨j5, h5, e5, _⟩ := numberL_drop (cutP 46 (numberL (cutP 46 (numberL l 2).2.1).1 1).2.1).1 1
  refine ⟨j1 + j2 + j3 + j4 + j5, ?_, ?_, ?_⟩
  · rw [e4, List.length_drop, e3, List.length_drop, e2, List.length_drop, e1, List.length_drop] at h5
    rw [e3, List.length_drop, e2, List.length_drop, e1, List.length_drop] at h4
    rw [e2, List.length_drop, e1, List.length_drop] at h3
    rw [e1, List.length_drop] at h2
    omega
  · simp only []
    rw [e5, e4, e3, e2, e1]
    simp only [List.drop_drop]
  · intro h
    simp only [Bool.and_eq_true] at h
    have := p1 h.1.1.1.1
    omega

/-- A rule without its time. -/
def dateL (l : List UInt8) : Int × Int × Int × Int × List UInt8 × Bool :=
  if l.head? = some 77 then (0, weekL l.tail) else if l.head? = some 74 then (1, (numberL l.tail 3).1, 0, 0, (numberL l.tail 3).2) else (2, (numberL l 3).1, 0, 0, (numberL l 3).2)
theorem dateL_drop (l : List UInt8) : ∃ j, j ≤ l.length ∧ (dateL l).2.2.2.2.1 = l.drop j ∧ ((dateL l).2.2.2.2.2 = true → 0 < j) := by
  unfold dateL
  by_cases h : l.head? = some 77
  · rw [if_pos h]
    obtain ⟨a, r, rfl⟩ : ∃ a r, l = a :: r := by cases l with | nil => simp at h | cons a r => exact ⟨a, r, rfl⟩
    obtain ⟨j, hj, e, _⟩ := weekL_drop r
    exact ⟨j + 1, by simp; omega, e, fun _ => by omega⟩
  · rw [if_neg h]
    by_cases h' : l.head? = some 74
    · rw [if_pos h']
      obtain ⟨a, r, rfl⟩ : ∃ a r, l = a :: r := by cases l with | nil => simp at h' | cons a r => exact ⟨a, r, rfl⟩
      obtain ⟨j, hj, e, _⟩ := numberL_drop r 3
      exact ⟨j + 1, by simp; omega, e, fun _ => by omega⟩
    · rw [if_neg h']
      exact numberL_drop l 3

/-- A rule. -/
def parseL (l : List UInt8) : Int × Int × Int × Int × Int × List UInt8 × Bool :=
  if (dateL l).2.2.2.2.2 = true then
    (if (dateL l).2.2.2.2.1.head? = some 47 then
      (if (timeL (dateL l).2.2.2.2.1.tail).2.2 = true ∧ rightR (dateL l).1 (dateL l).2.1 (dateL l).2.2.1 (dateL l).2.2.2.1 (timeL (dateL l).2.2.2.2.1.tail).1 = true then
        ((dateL l).1, (dateL l).2.1, (dateL l).2.2.1, (dateL l).2.2.2.1, (timeL (dateL l).2.2.2.2.1.tail).1, (timeL (dateL l).2.2.2.2.1.tail).2.1, true) else (0, 0, 0, 0, 0, l, false))
    else if rightR (dateL l).1 (dateL l).2.1 (dateL l).2.2.1 (dateL l).2.2.2.1 7200 = true then
      ((dateL l).1, (dateL l).2.1, (dateL l).2.2.1, (dateL l).2.2.2.1, 7200, (dateL l).2.2.2.2.1, true) else (0, 0, 0, 0, 0, l, false))
  else (0, 0, 0, 0, 0, l, false)
theorem parse_good (l : List UInt8) (h : (parseL l).2.2.2.2.2.2 = true) :
    rightR (parseL l).1 (parseL l).2.1 (parseL l).2.2.1 (parseL l).2.2.2.1 (parseL l).2.2.2.2.1 = true ∧ ∃ j, 0 < j ∧ j ≤ l.length ∧ (parseL l).2.2.2.2.2.1 = l.drop j := by
  obtain ⟨j, hj, e, hp⟩ := dateL_drop l
  revert h
  unfold parseL
  by_cases hok : (dateL l).2.2.2.2.2 = true
  · have hp := hp hok
    rw [if_pos hok]
    by_cases hc : (dateL l).2.2.2.2.1.head? = some 47
    · rw [if_pos hc]
      by_cases hR : (timeL (dateL l).2.2.2.2.1.tail).2.2 = true ∧ rightR (dateL l).1 (dateL l).2.1 (dateL l).2.2.1 (dateL l).2.2.2.1 (timeL (dateL l).2.2.2.2.1.tail).1 = true
      · rw [if_pos hR]
        intro _
        obtain ⟨i, hi, ei, _⟩ := time_drop (dateL l).2.2.2.2.1.tail
        refine ⟨hR.2, j + 1 + i, by omega, ?_, ?_⟩
        · rw [List.length_tail, e, List.length_drop] at hi
          have : (dateL l).2.2.2.2.1.length ≠ 0 := by intro h0; rw [List.eq_nil_of_length_eq_zero h0] at hc; simp at hc
          rw [e, List.length_drop] at this
          omega
        · simp only []
          rw [ei, e, ← List.drop_one, List.drop_drop, List.drop_drop]
          congr 1; omega
      · rw [if_neg hR]; intro h; simp at h
    · rw [if_neg hc]
      by_cases hR : rightR (dateL l).1 (dateL l).2.1 (dateL l).2.2.1 (dateL l).2.2.2.1 7200 = true
      · rw [if_pos hR]
        intro _
        exact ⟨hR, j, hp, hj, e⟩
      · rw [if_neg hR]; intro h; simp at h
  · rw [if_neg hok]; intro h; simp at h
theorem parse_bad (l : List UInt8) (h : (parseL l).2.2.2.2.2.2 = false) : parseL l = (0, 0, 0, 0, 0, l, false) := by
  revert h
  unfold parseL
  split
  · split
    · split
      · intro h; simp at h
      · intro _; rfl
    · split
      · intro h; simp at h
      · intro _; rfl
  · intro _; rfl

/-- A rule's text. -/
def headL (K A B C : Int) : List UInt8 := if K = 0 then 77 :: (itoaK A ++ 46 :: (itoaK B ++ 46 :: itoaK C)) else if K = 1 then 74 :: itoaK A else itoaK A
def tailL (X : Int) : List UInt8 := if X = 7200 then [] else 47 :: (clockL X).1
def textL (K A B C X : Int) : List UInt8 × Bool := if rightR K A B C X = true then (headL K A B C ++ tailL X, true) else ([], false)
theorem clockL_len (X : Int) : (clockL X).1.length ≤ 200 := by
  unfold clockL
  split
  · have l1 := digsN_len 20 (X.natAbs / 3600)
    have l2 := pairL_len (X.natAbs / 60 % 60)
    have l3 := pairL_len (X.natAbs % 60)
    have : (clockB X.natAbs).length ≤ 102 := by
      unfold clockB
      rw [List.length_append]
      split
      · rw [List.length_append]; omega
      · split
        · omega
        · simp; omega
    simp only []
    rw [List.length_append]
    split
    · simp; omega
    · simp; omega
  · simp
theorem itoaK_len (n : Int) : (itoaK n).length ≤ 21 := by
  unfold itoaK
  split
  · have := digsN_len 20 n.natAbs; simp; omega
  · have := digsN_len 20 n.toNat; omega
theorem textL_len (K A B C X : Int) : (textL K A B C X).1.length ≤ 300 := by
  have h1 := itoaK_len A
  have h2 := itoaK_len B
  have h3 := itoaK_len C
  have h4 := clockL_len X
  unfold textL headL tailL
  split
  · simp only []
    rw [List.length_append]
    repeat' split
    all_goals (simp; omega)
  · simp
theorem nums_ok : ∀ a, a < 366 → ((digsN 20 a).all isDig = true ∧ valL (digsN 20 a) = a ∧ 1 ≤ (digsN 20 a).length ∧ (digsN 20 a).length ≤ 3 ∧ (a < 100 → (digsN 20 a).length ≤ 2) ∧ (a < 10 → (digsN 20 a).length ≤ 1)) := by decide +kernel
theorem numberL_app (a : Nat) (ha : a < 366) (m : Nat) (hm : (digsN 20 a).length ≤ m) (t : List UInt8) (ht : ∀ c, t.head? = some c → isDig c = false) : numberL (digsN 20 a ++ t) m = ((a : Int), t, true) := by
  obtain ⟨h1, h2, h3, _⟩ := nums_ok a ha
  unfold numberL
  rw [dl_app _ _ h1 ht, if_neg (by omega), List.take_left, List.drop_left, h2]
theorem digs_head (a : Nat) (ha : a < 366) (t : List UInt8) (c : UInt8) (hc : isDig c = false) : (digsN 20 a ++ t).head? ≠ some c := by
  obtain ⟨h1, _, h3, _⟩ := nums_ok a ha
  cases hd : digsN 20 a with
  | nil => rw [hd] at h3; simp at h3
  | cons x r =>
    rw [hd] at h1
    simp only [List.cons_append, List.head?_cons, ne_eq, Option.some.injEq]
    rintro rfl
    simp only [List.all_cons, Bool.and_eq_true] at h1
    rw [hc] at h1
    exact absurd h1.1 (by simp)
theorem date_head (K A B C X : Int) (hR : rightR K A B C X = true) (t : List UInt8) (ht : ∀ c, t.head? = some c → isDig c = false) : dateL (headL K A B C ++ t) = (K, A, B, C, t, true) := by
  have hr := (right_iff K A B C X).1 hR
  obtain ⟨a, rfl⟩ : ∃ a : Nat, A = (a : Int) := ⟨A.toNat, by omega⟩
  obtain ⟨b, rfl⟩ : ∃ a : Nat, B = (a : Int) := ⟨B.toNat, by omega⟩
  obtain ⟨c, rfl⟩ : ∃ a : Nat, C = (a : Int) := ⟨C.toNat, by omega⟩
  obtain ⟨_, _, _, a3, a2, _⟩ := nums_ok a (by omega)
  unfold dateL headL
  rw [itoaK_nat, itoaK_nat, itoaK_nat]
  by_cases k0 : K = 0
  · subst k0
    obtain ⟨_, _, _, _, _, b1⟩ := nums_ok b (by omega)
    obtain ⟨_, _, _, _, _, c1⟩ := nums_ok c (by omega)
    rw [if_pos rfl, List.cons_append, if_pos (by rfl)]
    simp only [List.tail_cons, List.append_assoc, List.cons_append]
    unfold weekL
    rw [numberL_app a (by omega) 2 (a2 (by omega)) _ (by intro c hc; simp at hc; subst hc; rfl)]
    simp only []
    rw [show cutP 46 (46 :: (digsN 20 b ++ 46 :: (digsN 20 c ++ t))) = (digsN 20 b ++ 46 :: (digsN 20 c ++ t), true) from rfl]
    simp only []
    rw [numberL_app b (by omega) 1 (b1 (by omega)) _ (by intro c hc; simp at hc; subst hc; rfl)]
    simp only []
    rw [show cutP 46 (46 :: (digsN 20 c ++ t)) = (digsN 20 c ++ t, true) from rfl]
    simp only []
    rw [numberL_app c (by omega) 1 (c1 (by omega)) _ ht]
    rfl
  · rw [if_neg k0]
    by_cases k1 : K = 1
    · subst k1
      rw [if_pos rfl, List.cons_append, if_neg (by simp), if_pos (by rfl), List.tail_cons, numberL_app a (by omega) 3 a3 _ ht]
      have : b = 0 ∧ c = 0 := by omega
      rw [this.1, this.2]; rfl
    · rw [if_neg k1, if_neg (digs_head a (by omega) t 77 rfl), if_neg (digs_head a (by omega) t 74 rfl), numberL_app a (by omega) 3 a3 _ ht]
      have : b = 0 ∧ c = 0 ∧ K = 2 := by omega
      rw [this.1, this.2.1, this.2.2]; rfl
theorem parse_text (K A B C X : Int) (hR : rightR K A B C X = true) (t : List UInt8) (ht : ∀ c, t.head? = some c → isDig c = false ∧ c ≠ 58 ∧ c ≠ 47) :
    parseL ((textL K A B C X).1 ++ t) = (K, A, B, C, X, t, true) := by
  have hr := (right_iff K A B C X).1 hR
  unfold textL
  rw [if_pos hR]
  simp only []
  rw [List.append_assoc]
  have hd : dateL (headL K A B C ++ (tailL X ++ t)) = (K, A, B, C, tailL X ++ t, true) := by
    refine date_head K A B C X hR _ ?_
    intro c hc
    unfold tailL at hc
    split at hc
    · exact (ht c hc).1
    · simp at hc; subst hc; rfl
  unfold parseL
  rw [hd]
  simp only []
  rw [if_pos trivial]
  unfold tailL
  by_cases x7 : X = 7200
  · subst x7
    rw [if_pos rfl, List.nil_append, if_neg (fun h => (ht _ h).2.2 rfl), if_pos hR]
  · rw [if_neg x7, List.cons_append, if_pos (by rfl), List.tail_cons, time_clock X hr.1 t (fun c hc => ⟨(ht c hc).1, (ht c hc).2.1⟩)]
    simp only []
    rw [if_pos ⟨trivial, hR⟩]

end Go.Proofs.YtcopbcfekmbhlaaDoor.Pl
end
section
set_option linter.unusedVariables false
set_option linter.unusedSimpArgs false
namespace Go.Proofs.YtcopbcfekmbhlaaDoor.Pl
open Go
set_option linter.unusedVariables false
set_option linter.unusedSimpArgs false

theorem digs_one (m n : Nat) (h : n < 10) : digsN (m + 1) n = [UInt8.ofNat (48 + n)] := by rw [digsN, if_pos h]
theorem digs_more (m n : Nat) (h : ¬ n < 10) : digsN (m + 1) n = digsN m (n / 10) ++ [UInt8.ofNat (48 + n % 10)] := by rw [digsN, if_neg h]
theorem sixty_no {c a b : UInt8} {r : List UInt8} (h : ¬ (c = 58 ∧ isDig a = true ∧ isDig b = true ∧ a.toNat ≤ 53)) : sixtyL (c :: a :: b :: r) = (0, c :: a :: b :: r, false) := if_neg h
theorem sixty_yes {c a b : UInt8} {r : List UInt8} (h : c = 58 ∧ isDig a = true ∧ isDig b = true ∧ a.toNat ≤ 53) : sixtyL (c :: a :: b :: r) = (10 * ((a.toNat : Int) - 48) + ((b.toNat : Int) - 48), r, true) := if_pos h
theorem isDig_iff (a : UInt8) : isDig a = true ↔ 48 ≤ a.toNat ∧ a.toNat ≤ 57 := by unfold isDig; simp
theorem valL_one (a : UInt8) : valL [a] = a.toNat - 48 := by simp [valL]
theorem valL_two (a b : UInt8) : valL [a, b] = 10 * (a.toNat - 48) + (b.toNat - 48) := by simp [valL]
theorem valL_three (a b c : UInt8) : valL [a, b, c] = 10 * (10 * (a.toNat - 48) + (b.toNat - 48)) + (c.toNat - 48) := by simp [valL]
theorem valL_snoc (a : List UInt8) (c : UInt8) : valL (a ++ [c]) = 10 * valL a + (c.toNat - 48) := by simp [valL, List.foldl_append]
theorem take_succ_at (l : List UInt8) (j : Nat) (h : j < l.length) : l.take (j + 1) = l.take j ++ [l[j]] := (List.take_append_getElem h).symm
theorem dl_digit (l : List UInt8) : ∀ j (h : j < dl l), isDig (l[j]'(Nat.lt_of_lt_of_le h (dl_le l))) = true := by
  intro j h
  have hl := dl_le l
  have := take_dl_dig l (j + 1) (by omega)
  rw [take_succ_at l j (by omega)] at this
  exact this _ (List.mem_append_right _ (List.mem_singleton.2 rfl))
theorem dl_stop (l : List UInt8) (h : dl l < l.length) : isDig l[dl l] = false := by
  induction l with
  | nil => simp at h
  | cons a r ih =>
    by_cases ha : isDig a = true
    · have e : dl (a :: r) = dl r + 1 := by rw [dl_cons, if_pos ha]
      have h' : dl r < r.length := by rw [e] at h; simpa using h
      have := ih h'
      simp only [e, List.getElem_cons_succ]
      exact this
    · have e : dl (a :: r) = 0 := by rw [dl_cons, if_neg ha]
      simp only [e, List.getElem_cons_zero]
      simpa using ha
def refNum (l : List UInt8) (m hi : Nat) : Int × List UInt8 := if dl l = 0 ∨ m < dl l ∨ hi < valL (l.take (dl l)) then (-1, l) else ((valL (l.take (dl l)) : Int), l.drop (dl l))
theorem refNum_yes {l : List UInt8} {m hi : Nat} (h : 0 ≤ (refNum l m hi).1) : numberL l m = ((refNum l m hi).1, (refNum l m hi).2, true) := by
  unfold refNum at h ⊢
  unfold numberL
  by_cases c : dl l = 0 ∨ m < dl l ∨ hi < valL (l.take (dl l))
  · rw [if_pos c] at h; simp at h
  · rw [if_neg c, if_neg (by omega)]
theorem refNum_of {l : List UInt8} {m hi : Nat} (h : (numberL l m).2.2 = true) (hv : (numberL l m).1 ≤ (hi : Int)) : refNum l m hi = ((numberL l m).1, (numberL l m).2.1) := by
  unfold numberL at h hv ⊢
  unfold refNum
  by_cases c : dl l = 0 ∨ m < dl l
  · rw [if_pos c] at h; cases h
  · rw [if_neg c] at hv ⊢
    rw [if_neg (by simp only [] at hv; omega)]
def refDot (l : List UInt8) : Int × List UInt8 := if l.head? = some 46 then refNum l.tail 1 9 else (-1, l)
def refHead (l : List UInt8) : Int × Int × Int × Int × List UInt8 :=
  if l.head? = some 77 then (0, (refNum l.tail 2 12).1, (refDot (refNum l.tail 2 12).2).1, refDot (refDot (refNum l.tail 2 12).2).2)
  else if l.head? = some 74 then (1, (refNum l.tail 3 365).1, 0, 0, (refNum l.tail 3 365).2) else (2, (refNum l 3 365).1, 0, 0, (refNum l 3 365).2)
theorem dot_yes {l : List UInt8} (h : 0 ≤ (refDot l).1) : cutP 46 l = (l.tail, true) ∧ numberL l.tail 1 = ((refDot l).1, (refDot l).2, true) := by
  unfold refDot at h ⊢
  unfold cutP
  by_cases c : l.head? = some 46
  · rw [if_pos c] at h ⊢
    rw [if_pos c]
    exact ⟨rfl, refNum_yes h⟩
  · rw [if_neg c] at h; simp at h
theorem dot_of {l : List UInt8} (h1 : (cutP 46 l).2 = true) (h2 : (numberL (cutP 46 l).1 1).2.2 = true) : refDot l = ((numberL (cutP 46 l).1 1).1, (numberL (cutP 46 l).1 1).2.1) := by
  unfold cutP at h1 h2 ⊢
  unfold refDot
  by_cases c : l.head? = some 46
  · rw [if_pos c] at h2 ⊢
    rw [if_pos c]
    have hb := numberL_bd l.tail 1
    exact refNum_of h2 (by have h3 := hb.2; rw [show ((10 ^ 1 : Nat) : Int) = 10 from rfl] at h3; omega)
  · rw [if_neg c] at h1; cases h1
theorem head_yes (l : List UInt8) (h : rightR (refHead l).1 (refHead l).2.1 (refHead l).2.2.1 (refHead l).2.2.2.1 7200 = true) :
    dateL l = ((refHead l).1, (refHead l).2.1, (refHead l).2.2.1, (refHead l).2.2.2.1, (refHead l).2.2.2.2, true) := by
  have hr := (right_iff _ _ _ _ _).1 h
  revert hr
  unfold refHead dateL
  by_cases h77 : l.head? = some 77
  · rw [if_pos h77, if_pos h77]
    simp only []
    intro hr
    have y1 := refNum_yes (l := l.tail) (m := 2) (hi := 12) (by omega)
    have y2 := dot_yes (l := (refNum l.tail 2 12).2) (by omega)
    have y3 := dot_yes (l := (refDot (refNum l.tail 2 12).2).2) (by omega)
    unfold weekL
    rw [y1]
    simp only []
    rw [y2.1]
    simp only []
    rw [y2.2]
    simp only []
    rw [y3.1]
    simp only []
    rw [y3.2]
    rfl
  · rw [if_neg h77, if_neg h77]
    by_cases h74 : l.head? = some 74
    · rw [if_pos h74, if_pos h74]
      simp only []
      intro hr
      rw [refNum_yes (l := l.tail) (m := 3) (hi := 365) (by omega)]
    · rw [if_neg h74, if_neg h74]
      simp only []
      intro hr
      rw [refNum_yes (l := l) (m := 3) (hi := 365) (by omega)]
theorem head_of (l : List UInt8) (ho : (dateL l).2.2.2.2.2 = true) (h : rightR (dateL l).1 (dateL l).2.1 (dateL l).2.2.1 (dateL l).2.2.2.1 7200 = true) :
    refHead l = ((dateL l).1, (dateL l).2.1, (dateL l).2.2.1, (dateL l).2.2.2.1, (dateL l).2.2.2.2.1) := by
  have hr := (right_iff _ _ _ _ _).1 h
  revert hr ho
  unfold refHead dateL
  by_cases h77 : l.head? = some 77
  · rw [if_pos h77, if_pos h77]
    simp only []
    unfold weekL
    simp only [Bool.and_eq_true]
    intro ho hr
    have z1 := refNum_of (l := l.tail) (m := 2) (hi := 12) ho.1.1.1.1 (by omega)
    rw [z1]
    simp only []
    have z2 := dot_of ho.1.2 ho.1.1.1.2
    rw [z2]
    simp only []
    have z3 := dot_of ho.2 ho.1.1.2
    rw [z3]
  · rw [if_neg h77, if_neg h77]
    by_cases h74 : l.head? = some 74
    · rw [if_pos h74, if_pos h74]
      simp only []
      intro ho hr
      rw [refNum_of (l := l.tail) (m := 3) (hi := 365) ho (by omega)]
    · rw [if_neg h74, if_neg h74]
      simp only []
      intro ho hr
      rw [refNum_of (l := l) (m := 3) (hi := 365) ho (by omega)]
theorem right_sec (K A B C X Y : Int) (hX : -604799 ≤ X ∧ X ≤ 604799) (hY : -604799 ≤ Y ∧ Y ≤ 604799) : rightR K A B C X = rightR K A B C Y := by
  rw [Bool.eq_iff_iff, right_iff, right_iff]
  constructor
  · intro h; exact ⟨hY, h.2⟩
  · intro h; exact ⟨hX, h.2⟩
theorem cum_one (y : Int) : cum y 1 = 0 := by unfold cum cum0; simp
/-- How many days of the weekday there are among the first t ones of the month, if r days are ahead of the first one. -/
def hits (r t : Int) : Int := (t + 6 - r) / 7
def manyW (r B t : Int) : Int := if hits r t ≤ B then hits r t else B
def atW (n r B t : Int) : Int := if manyW r B t = 0 then -1 else n + r + 7 * (manyW r B t - 1)

end Go.Proofs.YtcopbcfekmbhlaaDoor.Pl
end
section
set_option linter.unusedVariables false
set_option linter.unusedSimpArgs false
namespace Go.Proofs.YtcopbcfekmbhlaaDoor.Pl
open Go Go.Proofs.YtcopbcfekmbhlaaDoor.Eng
set_option linter.unusedVariables false

theorem ifT {c : Prop} [Decidable c] {a b : Prop} (h : c) (ha : a) : if c then a else b := by rw [if_pos h]; exact ha
theorem ifF {c : Prop} [Decidable c] {a b : Prop} (h : ¬ c) (hb : b) : if c then a else b := by rw [if_neg h]; exact hb
theorem ifC {c : Prop} [Decidable c] {a b : Prop} (h1 : c → a) (h2 : ¬ c → b) : if c then a else b := by
  by_cases h : c
  · exact ifT h (h1 h)
  · exact ifF h (h2 h)
theorem w64_in {n : Int} (h0 : -9223372036854775808 ≤ n) (h1 : n ≤ 9223372036854775807) : w64 n = n := by
  simp only [w64, IntKind.wrap, IntKind.bits, IntKind.signed]
  try simp
  try omega
theorem bAt_S (l : List UInt8) (i : Nat) : Eng.bAt (S l) i = ((l.getD i 0).toNat : Int) := rfl
theorem bAt0 (c : UInt8) (l : List UInt8) : Eng.bAt (S (c :: l)) 0 = (c.toNat : Int) := rfl
theorem bAt1 (a c : UInt8) (l : List UInt8) : Eng.bAt (S (a :: c :: l)) 1 = (c.toNat : Int) := rfl
theorem bAt2 (a b c : UInt8) (l : List UInt8) : Eng.bAt (S (a :: b :: c :: l)) 2 = (c.toNat : Int) := rfl
/-- A loop that comes to an end: what holds ahead of each round, and a measure. -/
theorem lp_ind {α : Type} {F : (α → Prop) → α → Prop} (μ : α → Nat) (I : α → Prop) (h : ∀ x, I x → ∀ k : α → Prop, (∀ y, I y → μ y < μ x → k y) → F k x) {x : α} (hx : I x) : Eng.lp F x := by
  have key : ∀ n x, I x → μ x < n → itrT F n x := by
    intro n
    induction n with
    | zero => intro x _ hn; omega
    | succ n ih => intro x hx hn; exact h x hx _ fun y hy hlt => ih y hy (by omega)
  exact ⟨μ x + 1, key _ _ hx (Nat.lt_succ_self _)⟩

/-- How many of a list's first elements are not such. -/
def nl (q : UInt8 → Bool) (l : List UInt8) : Nat := (l.takeWhile fun c => !q c).length
theorem nl_le (q : UInt8 → Bool) (l : List UInt8) : nl q l ≤ l.length := by unfold nl; exact (List.takeWhile_sublist _).length_le
theorem nl_cons (q : UInt8 → Bool) (c : UInt8) (l : List UInt8) : nl q (c :: l) = if q c = true then 0 else nl q l + 1 := by
  unfold nl; rw [List.takeWhile_cons]; cases q c <;> simp
theorem nl_any (q : UInt8 → Bool) (l : List UInt8) : l.any q = decide (nl q l < l.length) := by
  induction l with
  | nil => rfl
  | cons c l ih =>
    rw [List.any_cons, nl_cons, ih]
    cases q c <;> simp
theorem nl_of (q : UInt8 → Bool) : ∀ (l : List UInt8) (k : Nat), k ≤ l.length → (∀ c ∈ l.take k, q c = false) → (∀ h : k < l.length, q l[k] = true) → nl q l = k
  | [], k, hk, _, _ => by simp at hk; subst hk; rfl
  | c :: l, 0, _, _, h => by
    have h0 : q c = true := h (by simp)
    rw [nl_cons, if_pos h0]
  | c :: l, k + 1, hk, h1, h2 => by
    have hc := h1 c (by simp)
    rw [nl_cons, if_neg (by rw [hc]; simp), nl_of q l k (by simpa using hk) (fun d hd => h1 d (by rw [List.take_succ_cons]; exact .tail _ hd)) (fun h => by have := h2 (by simpa using h); simpa using this)]
theorem indexByte_nl (l : List UInt8) (c : UInt8) : Lib.indexByte l c = if nl (· == c) l < l.length then (nl (· == c) l : Int) else -1 := by
  induction l with
  | nil => rfl
  | cons b l ih =>
    rw [Lib.indexByte, nl_cons, ih]
    cases hb : (b == c)
    · simp only [Bool.false_eq_true, if_false, List.length_cons]
      by_cases h : nl (· == c) l < l.length
      · rw [if_pos h, if_neg (by simp), if_pos (by omega)]; omega
      · rw [if_neg h, if_pos (by simp), if_neg (by omega)]
    · simp
theorem decode_lo (l : List UInt8) (pos : Nat) (h : pos < l.length) (ha : l[pos].toNat < 128) : Utf8.decode (S l) pos = (l[pos].toNat, 1) := decode_ascii (S l) pos (by rw [S_size]; exact h) ha
theorem decode_hi (l : List UInt8) (pos : Nat) (h : pos < l.length) (ha : 128 ≤ l[pos].toNat) : 128 ≤ (Utf8.decode (S l) pos).1 ∧ 1 ≤ (Utf8.decode (S l) pos).2 := decode_high (S l) pos (by rw [S_size]; exact h) ha
theorem S_toList' (l : List UInt8) : (S l).toList = l := S_toList l
end Go.Proofs.YtcopbcfekmbhlaaDoor.Pl
end
section
set_option linter.unusedVariables false
set_option linter.unusedSimpArgs false
namespace Go.Proofs.YtcopbcfekmbhlaaDoor.Pl
open Go
set_option linter.unusedVariables false
set_option linter.unusedSimpArgs false

/-- A text, cut at a sign. -/
def splitL (c : UInt8) (l : List UInt8) : List UInt8 × List UInt8 × Bool := if nl (· == c) l < l.length then (l.take (nl (· == c) l), l.drop (nl (· == c) l + 1), true) else (l, [], false)
/-- A sign that may not be in a name; one that is a letter; names of local times. -/
def badC (c : UInt8) : Bool := !((97 ≤ c.toNat && c.toNat ≤ 122) || (65 ≤ c.toNat && c.toNat ≤ 90) || (48 ≤ c.toNat && c.toNat ≤ 57) || c.toNat == 43 || c.toNat == 45)
def letC (c : UInt8) : Bool := (97 ≤ c.toNat && c.toNat ≤ 122) || (65 ≤ c.toNat && c.toNat ≤ 90)
def abbrL (l : List UInt8) : Bool := decide (3 ≤ l.length ∧ l.length ≤ 16) && !l.any badC

structure Ru where
  k : Int
  a : Int
  b : Int
  c : Int
  x : Int
def Ru.z : Ru := ⟨0, 0, 0, 0, 0⟩
def Ru.ok (r : Ru) : Bool := rightR r.k r.a r.b r.c r.x
def Ru.txt (r : Ru) : List UInt8 := (textL r.k r.a r.b r.c r.x).1
def Ru.at (r : Ru) (y : Int) : Int := ruleDay r.k r.a r.b r.c y * 86400 + r.x
structure Ft where
  so : Int
  sd : Bool
  sa : List UInt8
  wo : Int
  wd : Bool
  wa : List UInt8
  has : Bool
  fr : Ru
  to : Ru
def Ft.z : Ft := ⟨0, false, [], 0, false, [], false, .z, .z⟩
def kindR (o : Int) (d : Bool) (l : List UInt8) (w : Bool) : Bool := abbrL l && (d == w) && decide (-89999 ≤ o ∧ o ≤ 89999)
def Ft.bare (f : Ft) : Prop := f.wo = 0 ∧ f.wd = false ∧ f.wa = [] ∧ (f.fr.k = 0 ∧ f.fr.a = 0 ∧ f.fr.b = 0 ∧ f.fr.c = 0 ∧ f.fr.x = 0) ∧ (f.to.k = 0 ∧ f.to.a = 0 ∧ f.to.b = 0 ∧ f.to.c = 0 ∧ f.to.x = 0)
instance (f : Ft) : Decidable f.bare := inferInstanceAs (Decidable (_ ∧ _))
def Ft.ok (f : Ft) : Bool := kindR f.so f.sd f.sa false && (if f.has = true then kindR f.wo f.wd f.wa true && f.fr.ok && f.to.ok else decide f.bare)
def nameT (l : List UInt8) : List UInt8 := if l.any (fun c => !letC c) = true then 60 :: (l ++ [62]) else l
def Ft.txt (f : Ft) : List UInt8 := nameT f.sa ++ ((clockL (-f.so)).1 ++ (if f.has = true then nameT f.wa ++ ((if f.wo - f.so ≠ 3600 then (clockL (-f.wo)).1 else []) ++ 44 :: (f.fr.txt ++ 44 :: f.to.txt)) else []))
def Ft.text (f : Ft) : List UInt8 × Bool := if f.ok = true then (f.txt, true) else ([], false)

/-- A name that is read: it, whether it may be, what is behind it. -/
def nameP (l : List UInt8) : List UInt8 × Bool × List UInt8 :=
  if l.head? = some 60 then ((splitL 62 l.tail).1, (splitL 62 l.tail).2.2 && abbrL (splitL 62 l.tail).1, (splitL 62 l.tail).2.1)
  else (l.take (nl (fun c => !letC c) l), abbrL (l.take (nl (fun c => !letC c) l)), l.drop (nl (fun c => !letC c) l))
structure Us where
  ok : Bool
  rest : List UInt8
  o : Int
  a : List UInt8
def usualP (l : List UInt8) : Us := ⟨(nameP l).2.1 && (timeL (nameP l).2.2).2.2, (timeL (nameP l).2.2).2.1, -(timeL (nameP l).2.2).1, (nameP l).1⟩
def summerP (so : Int) (l : List UInt8) : Us :=
  if (timeL (nameP l).2.2).2.2 = true then ⟨(nameP l).2.1, (timeL (nameP l).2.2).2.1, -(timeL (nameP l).2.2).1, (nameP l).1⟩ else ⟨(nameP l).2.1, (nameP l).2.2, so + 3600, (nameP l).1⟩
structure Rp where
  ok : Bool
  rest : List UInt8
  r : Ru
def ruleP (l : List UInt8) : Rp := ⟨(parseL (cutP 44 l).1).2.2.2.2.2.2 && (cutP 44 l).2, (parseL (cutP 44 l).1).2.2.2.2.2.1, ⟨(parseL (cutP 44 l).1).1, (parseL (cutP 44 l).1).2.1, (parseL (cutP 44 l).1).2.2.1, (parseL (cutP 44 l).1).2.2.2.1, (parseL (cutP 44 l).1).2.2.2.2.1⟩⟩
def Ft.chk (f : Ft) : Ft × Bool := if f.ok = true then (f, true) else (.z, false)
def Ft.parse (l : List UInt8) : Ft × Bool :=
  if (usualP l).ok = true then
    (if (usualP l).rest = [] then Ft.chk ⟨(usualP l).o, false, (usualP l).a, 0, false, [], false, .z, .z⟩
    else if (summerP (usualP l).o (usualP l).rest).ok = true then
      (if (ruleP (summerP (usualP l).o (usualP l).rest).rest).ok = true then
        (if (ruleP (ruleP (summerP (usualP l).o (usualP l).rest).rest).rest).ok = true then
          (if (ruleP (ruleP (summerP (usualP l).o (usualP l).rest).rest).rest).rest = [] then
            Ft.chk ⟨(usualP l).o, false, (usualP l).a, (summerP (usualP l).o (usualP l).rest).o, true, (summerP (usualP l).o (usualP l).rest).a, true, (ruleP (summerP (usualP l).o (usualP l).rest).rest).r, (ruleP (ruleP (summerP (usualP l).o (usualP l).rest).rest).rest).r⟩
          else (.z, false)) else (.z, false)) else (.z, false)) else (.z, false))
  else (.z, false)
/-- When the summer's time holds in a year. -/
def Ft.spans (f : Ft) (y : Int) : Prop := f.has = true ∧ f.ok = true ∧ 1 ≤ y ∧ y ≤ 9999
instance (f : Ft) (y : Int) : Decidable (f.spans y) := inferInstanceAs (Decidable (_ ∧ _))
def Ft.from' (f : Ft) (y : Int) : Int := f.fr.at y - f.so
def Ft.to' (f : Ft) (y : Int) : Int := f.to.at y - f.wo
/-- Whether a second's year is known; whether the summer's time holds. -/
def inDays (n : Int) : Prop := -719162 ≤ n / 86400 ∧ n / 86400 ≤ 2932896
instance (n : Int) : Decidable (inDays n) := inferInstanceAs (Decidable (_ ∧ _))
def Ft.sum (f : Ft) (p : Int) : Prop := inDays (p + f.so) ∧ f.spans (yearP ((p + f.so) / 86400)) ∧
  ((f.from' (yearP ((p + f.so) / 86400)) ≤ p ∧ p < f.to' (yearP ((p + f.so) / 86400))) ∨ (f.to' (yearP ((p + f.so) / 86400)) ≤ f.from' (yearP ((p + f.so) / 86400)) ∧ (f.from' (yearP ((p + f.so) / 86400)) ≤ p ∨ p < f.to' (yearP ((p + f.so) / 86400)))))
instance (f : Ft) (p : Int) : Decidable (f.sum p) := inferInstanceAs (Decidable (_ ∧ _))
end Go.Proofs.YtcopbcfekmbhlaaDoor.Pl
end
section
set_option linter.unusedVariables false
set_option linter.unusedSimpArgs false
namespace Go.Proofs.YtcopbcfekmbhlaaDoor.Pl
open Go
set_option linter.unusedVariables false
set_option linter.unusedSimpArgs false

theorem year_of_day {n y : Int} (h1 : 1 ≤ y) (h2 : y ≤ 9999) (h3 : fst y ≤ n) (h4 : n < fst (y + 1)) : yearP n = y := by
  have hb := fst_bd h1 h2
  have b1 : fst 1 ≤ fst y := fst_le h1
  have e1 : fst 1 = -719162 := rfl
  obtain ⟨hv, hn⟩ := num_date (n := n) (by omega) (by omega)
  have hb2 := num_bd hv
  rw [hn] at hb2
  generalize yearP n = z at *
  by_cases hlt : z < y
  · have := fst_le (y := z + 1) (z := y) (by omega); omega
  · by_cases hgt : y < z
    · have := fst_le (y := y + 1) (z := z) (by omega); omega
    · omega
theorem first_day {n : Int} (h0 : -719162 ≤ n) (h1 : n ≤ 2932896) (h : n = fst (yearP n)) : monP n = 1 ∧ dayP n = 1 := by
  obtain ⟨hv, hn⟩ := num_date h0 h1
  have hv1 : Vld (yearP n) 1 1 := ⟨hv.1, hv.2.1, by omega, by omega, by omega, by rw [dim_jan]; omega⟩
  have e := date_num hv1
  rw [num_first, ← h] at e
  exact e.2
theorem new_year {n : Int} (h0 : -719162 ≤ n - 1) (h1 : n ≤ 2932896) (h : yearP n ≠ yearP (n - 1)) : monP n = 1 ∧ dayP n = 1 := by
  obtain ⟨hv, hn⟩ := num_date (n := n) (by omega) h1
  have hb := num_bd hv
  rw [hn] at hb
  refine first_day (by omega) h1 ?_
  by_cases e : fst (yearP n) ≤ n - 1
  · exact absurd (year_of_day hv.1 hv.2.1 e (by omega)).symm h
  · omega
/-- What holds changes where a span begins or ends, or a year does. -/
theorem sum_turns {f : Ft} {p : Int} (h : ¬ (f.sum p ↔ f.sum (p + 1))) :
    (inDays (p + 1 + f.so) ∧ f.spans (yearP ((p + 1 + f.so) / 86400)) ∧ (p + 1 = f.from' (yearP ((p + 1 + f.so) / 86400)) ∨ p + 1 = f.to' (yearP ((p + 1 + f.so) / 86400)))) ∨
    (inDays (p + 1 + f.so) ∧ monP ((p + 1 + f.so) / 86400) = 1 ∧ dayP ((p + 1 + f.so) / 86400) = 1 ∧ p + 1 + f.so = 86400 * ((p + 1 + f.so) / 86400)) ∨
    (¬ inDays (p + 1 + f.so) ∧ (p + 1 + f.so) / 86400 = 2932897) := by
  by_cases e1 : inDays (p + 1 + f.so)
  · by_cases ed : (p + f.so) / 86400 = (p + 1 + f.so) / 86400
    · refine .inl ⟨e1, ?_⟩
      have e2 : inDays (p + f.so) := by unfold inDays; rw [ed]; exact e1
      by_cases es : f.spans (yearP ((p + 1 + f.so) / 86400))
      · refine ⟨es, ?_⟩
        have s1 : f.sum p ↔ _ := ⟨fun h => h.2.2, fun h => ⟨e2, by rw [ed]; exact es, h⟩⟩
        have s2 : f.sum (p + 1) ↔ _ := ⟨fun h => h.2.2, fun h => ⟨e1, es, h⟩⟩
        rw [ed] at s1
        generalize f.from' (yearP ((p + 1 + f.so) / 86400)) = a at *
        generalize f.to' (yearP ((p + 1 + f.so) / 86400)) = b at *
        rw [s1, s2] at h
        omega
      · exfalso
        refine h ⟨fun h => absurd h.2.1 (by rw [ed]; exact es), fun h => absurd h.2.1 es⟩
    · have hd : p + 1 + f.so = 86400 * ((p + 1 + f.so) / 86400) ∧ (p + f.so) / 86400 = (p + 1 + f.so) / 86400 - 1 := by omega
      unfold inDays at e1
      by_cases e2 : inDays (p + f.so)
      · unfold inDays at e2
        by_cases ey : yearP ((p + f.so) / 86400) = yearP ((p + 1 + f.so) / 86400)
        · refine .inl ⟨e1, ?_⟩
          by_cases es : f.spans (yearP ((p + 1 + f.so) / 86400))
          · refine ⟨es, ?_⟩
            have s1 : f.sum p ↔ _ := ⟨fun h => h.2.2, fun h => ⟨e2, by rw [ey]; exact es, h⟩⟩
            have s2 : f.sum (p + 1) ↔ _ := ⟨fun h => h.2.2, fun h => ⟨e1, es, h⟩⟩
            rw [ey] at s1
            generalize f.from' (yearP ((p + 1 + f.so) / 86400)) = a at *
            generalize f.to' (yearP ((p + 1 + f.so) / 86400)) = b at *
            rw [s1, s2] at h
            clear s1 s2 ey es hd
            omega
          · exfalso
            refine h ⟨fun h => absurd h.2.1 (by rw [ey]; exact es), fun h => absurd h.2.1 es⟩
        · obtain ⟨m1, m2⟩ := new_year (n := (p + 1 + f.so) / 86400) (by omega) (by omega) (by rw [hd.2] at ey; exact Ne.symm ey)
          exact .inr (.inl ⟨e1, m1, m2, hd.1⟩)
      · have e3 : (p + 1 + f.so) / 86400 = -719162 := by unfold inDays at e2; omega
        have hy : yearP (-719162) = 1 := by decide +kernel
        obtain ⟨m1, m2⟩ := first_day (n := (p + 1 + f.so) / 86400) (by omega) (by omega) (by rw [e3, hy]; rfl)
        exact .inr (.inl ⟨e1, m1, m2, hd.1⟩)
  · by_cases e2 : inDays (p + f.so)
    · refine .inr (.inr ⟨e1, ?_⟩)
      unfold inDays at *
      omega
    · exfalso
      exact h ⟨fun h => absurd h.1 e2, fun h => absurd h.1 e1⟩
/-- In a year whose spans are known. -/
theorem sum_year {f : Ft} {y n : Int} (hs : f.spans y) (h0 : 0 ≤ n) (h1 : n < 31536000) : f.sum (86400 * fst y - f.so + n) ↔
    ((f.from' y ≤ 86400 * fst y - f.so + n ∧ 86400 * fst y - f.so + n < f.to' y) ∨ (f.to' y ≤ f.from' y ∧ (f.from' y ≤ 86400 * fst y - f.so + n ∨ 86400 * fst y - f.so + n < f.to' y))) := by
  have hy1 := hs.2.2.1
  have hy2 := hs.2.2.2
  have hb := fst_bd hy1 hy2
  have hs1 := fst_succ y
  have e : (86400 * fst y - f.so + n + f.so) / 86400 = fst y + n / 86400 := by omega
  have ey : yearP (fst y + n / 86400) = y := year_of_day hy1 hy2 (by omega) (by rw [hs1]; split <;> omega)
  have ed : inDays (86400 * fst y - f.so + n + f.so) := by unfold inDays; rw [e]; have : fst (y + 1) ≥ fst y + 365 := by rw [hs1]; split <;> omega
                                                           omega
  unfold Ft.sum
  rw [e, ey]
  exact ⟨fun h => h.2.2, fun h => ⟨ed, hs, h⟩⟩

theorem nl_app (q : UInt8 → Bool) (a b : List UInt8) (ha : ∀ c ∈ a, q c = false) (hb : ∀ c, b.head? = some c → q c = true) : nl q (a ++ b) = a.length := by
  refine nl_of q _ _ (by simp) (fun c hc => ?_) fun h => ?_
  · rw [List.take_left'] at hc
    · exact ha c hc
    · rfl
  · rw [List.getElem_append_right (by omega)]
    simp only [Nat.sub_self]
    cases b with
    | nil => simp at h
    | cons c b => exact hb c rfl
theorem abbr_all {l : List UInt8} (h : abbrL l = true) : ∀ c ∈ l, badC c = false := by
  unfold abbrL at h
  simp only [Bool.and_eq_true, Bool.not_eq_true', List.any_eq_false] at h
  intro c hc
  have := h.2 c hc
  simpa using this
theorem nameP_name (a rest : List UInt8) (ha : abbrL a = true) (hr : ∀ c, rest.head? = some c → letC c = false) : nameP (nameT a ++ rest) = (a, true, rest) := by
  have hall := abbr_all ha
  unfold nameT nameP
  by_cases e : a.any (fun c => !letC c) = true
  · rw [if_pos e]
    have h60 : (60 :: (a ++ [62]) ++ rest).head? = some 60 := rfl
    have ht : (60 :: (a ++ [62]) ++ rest).tail = a ++ (62 :: rest) := by simp
    rw [if_pos h60, ht]
    have hn : nl (· == 62) (a ++ 62 :: rest) = a.length := nl_app _ _ _ (fun c hc => by
      have := hall c hc
      unfold badC at this
      rw [beq_eq_false_iff_ne]; rintro rfl; revert this; decide) (fun c hc => by simp at hc; subst hc; rfl)
    unfold splitL
    rw [hn, if_pos (by simp)]
    simp [ha]
  · rw [if_neg e]
    have hal : ∀ c ∈ a, letC c = true := by
      simp only [List.any_eq_true, not_exists, not_and, Bool.not_eq_true', Bool.not_eq_false] at e
      exact e
    have hne : a ≠ [] := by rintro rfl; unfold abbrL at ha; simp at ha
    have h60 : (a ++ rest).head? ≠ some 60 := by
      cases a with
      | nil => exact absurd rfl hne
      | cons c a =>
        have := hal c (.head _)
        intro h
        simp at h
        subst h; revert this; decide
    have hn : nl (fun c => !letC c) (a ++ rest) = a.length := nl_app _ _ _ (fun c hc => by simp [hal c hc]) fun c hc => by simp [hr c hc]
    rw [if_neg h60, hn]
    simp [ha]
theorem clockL_head (x : Int) (h : -604799 ≤ x ∧ x ≤ 604799) (r : List UInt8) : ∃ c t, (clockL x).1 ++ r = c :: t ∧ (isDig c = true ∨ c = 45) := by
  unfold clockL
  rw [if_pos h]
  obtain ⟨c, t, e, hc⟩ := clockB_head x.natAbs (by omega) r
  by_cases hn : x < 0
  · rw [if_pos hn]
    refine ⟨45, clockB x.natAbs ++ r, by simp, .inr rfl⟩
  · rw [if_neg hn]
    exact ⟨c, t, by simpa using e, .inl hc⟩
theorem dig_let {c : UInt8} (h : isDig c = true ∨ c = 45) : letC c = false := by
  rcases h with h | rfl
  · unfold isDig at h
    simp at h
    unfold letC
    simp
    omega
  · decide
theorem nameT_head (a r : List UInt8) (ha : abbrL a = true) : ∃ c t, nameT a ++ r = c :: t ∧ isDig c = false ∧ c ≠ 58 := by
  unfold nameT
  by_cases e : a.any (fun c => !letC c) = true
  · rw [if_pos e]; exact ⟨60, _, rfl, by decide, by decide⟩
  · rw [if_neg e]
    cases a with
    | nil => unfold abbrL at ha; simp at ha
    | cons c a =>
      have hc : letC c = true := by
        simp only [List.any_eq_true, not_exists, not_and, Bool.not_eq_true', Bool.not_eq_false] at e
        exact e c (.head _)
      refine ⟨c, a ++ r, rfl, ?_, ?_⟩
      · cases hd : isDig c
        · rfl
        · rw [dig_let (.inl hd)] at hc; cases hc
      · rintro rfl; revert hc; decide
theorem time_none (l : List UInt8) (h : l.head? = some 44) : timeL l = (0, l, false) := by
  cases l with
  | nil => cases h
  | cons c l =>
    simp at h
    subst h
    have hs : signL (44 :: l) = (1, 44 :: l) := rfl
    unfold timeL
    rw [hs, if_pos (by rw [dl_cons]; rfl)]
theorem kind_all {o : Int} {d : Bool} {l : List UInt8} {w : Bool} : kindR o d l w = true ↔ abbrL l = true ∧ d = w ∧ -89999 ≤ o ∧ o ≤ 89999 := by
  unfold kindR; simp [and_assoc]
theorem ruleP_text (r : Ru) (h : r.ok = true) (t : List UInt8) (ht : ∀ c, t.head? = some c → isDig c = false ∧ c ≠ 58 ∧ c ≠ 47) : ruleP (44 :: (r.txt ++ t)) = ⟨true, t, r⟩ := by
  have e : cutP 44 (44 :: (r.txt ++ t)) = (r.txt ++ t, true) := rfl
  unfold ruleP
  rw [e]
  have := parse_text r.k r.a r.b r.c r.x h t ht
  unfold Ru.txt
  simp only
  rw [this]
  rfl
theorem ft_eq (f : Ft) (h1 : f.sd = false) (h2 : f.wd = true) (h3 : f.has = true) : (⟨f.so, false, f.sa, f.wo, true, f.wa, true, f.fr, f.to⟩ : Ft) = f := by
  cases f; simp only at h1 h2 h3; subst h1 h2 h3; rfl
/-- What was written is read as it was. -/
theorem parse_foot (f : Ft) (h : f.ok = true) : Ft.parse f.txt = (f, true) := by
  have h0 := h
  unfold Ft.ok at h
  rw [Bool.and_eq_true] at h
  obtain ⟨k1, k2, k3, k4⟩ := kind_all.1 h.1
  have cs := clockL_head (-f.so) (by omega)
  have c44 : isDig 44 = false ∧ (44 : UInt8) ≠ 58 ∧ (44 : UInt8) ≠ 47 := by decide
  by_cases eh : f.has = true
  · rw [if_pos eh, Bool.and_eq_true, Bool.and_eq_true] at h
    obtain ⟨_, ⟨h1, h2⟩, h3⟩ := h
    obtain ⟨j1, j2, j3, j4⟩ := kind_all.1 h1
    unfold Ft.txt
    rw [if_pos eh]
    obtain ⟨rest2, hr2⟩ : ∃ r, r = (if f.wo - f.so ≠ 3600 then (clockL (-f.wo)).1 else []) ++ 44 :: (f.fr.txt ++ 44 :: f.to.txt) := ⟨_, rfl⟩
    rw [← hr2]
    have hlet2 : ∀ c, rest2.head? = some c → letC c = false := by
      intro c hc
      rw [hr2] at hc
      split at hc
      · obtain ⟨c', t, e, hd⟩ := clockL_head (-f.wo) (by omega) (44 :: (f.fr.txt ++ 44 :: f.to.txt))
        rw [e] at hc; simp at hc; subst hc
        exact dig_let hd
      · simp at hc; subst hc; decide
    have hu : usualP (nameT f.sa ++ ((clockL (-f.so)).1 ++ (nameT f.wa ++ rest2))) = ⟨true, nameT f.wa ++ rest2, f.so, f.sa⟩ := by
      unfold usualP
      rw [nameP_name f.sa _ k1 (fun c hc => by obtain ⟨c', t, e, hd⟩ := cs (nameT f.wa ++ rest2); rw [e] at hc; simp at hc; subst hc; exact dig_let hd)]
      simp only
      rw [time_clock (-f.so) (by omega) _ (fun c hc => by obtain ⟨c', t, e, hd⟩ := nameT_head f.wa rest2 j1; rw [e] at hc; simp at hc; subst hc; exact hd)]
      simp
    have hs : summerP f.so (nameT f.wa ++ rest2) = ⟨true, 44 :: (f.fr.txt ++ 44 :: f.to.txt), f.wo, f.wa⟩ := by
      unfold summerP
      rw [nameP_name f.wa _ j1 hlet2]
      simp only
      by_cases e3 : f.wo - f.so = 3600
      · rw [if_neg (by simpa using e3)] at hr2
        rw [hr2, List.nil_append, time_none _ rfl]
        simp only [Bool.false_eq_true, if_false]
        have : f.so + 3600 = f.wo := by omega
        rw [this]
      · rw [if_pos e3] at hr2
        rw [hr2, time_clock (-f.wo) (by omega) _ (fun c hc => by simp at hc; subst hc; exact ⟨c44.1, c44.2.1⟩)]
        simp
    have hp1 := ruleP_text f.fr h2 (44 :: f.to.txt) (fun c hc => by simp at hc; subst hc; exact c44)
    have hp2 := ruleP_text f.to h3 [] (fun c hc => by simp at hc)
    rw [List.append_nil] at hp2
    have hne : nameT f.wa ++ rest2 ≠ [] := by
      obtain ⟨c, t, e, _⟩ := nameT_head f.wa rest2 j1
      rw [e]; simp
    unfold Ft.parse
    rw [hu]
    simp only [if_neg hne, if_true]
    rw [hs]
    simp only [if_true]
    rw [hp1]
    simp only [if_true]
    rw [hp2]
    simp only [if_true]
    have ef := ft_eq f k2 j2 eh
    rw [ef]
    unfold Ft.chk
    rw [if_pos h0]
  · rw [if_neg eh] at h
    unfold Ft.txt
    rw [if_neg eh]
    have hu : usualP (nameT f.sa ++ ((clockL (-f.so)).1 ++ [])) = ⟨true, [], f.so, f.sa⟩ := by
      unfold usualP
      rw [nameP_name f.sa _ k1 (fun c hc => by obtain ⟨c', t, e, hd⟩ := cs []; rw [e] at hc; simp at hc; subst hc; exact dig_let hd)]
      simp only
      rw [time_clock (-f.so) (by omega) _ (fun c hc => by simp at hc)]
      simp
    unfold Ft.parse
    rw [hu]
    simp only [if_true]
    have hb := of_decide_eq_true h.2
    have ef : (⟨f.so, false, f.sa, 0, false, [], false, .z, .z⟩ : Ft) = f := by
      obtain ⟨b1, b2, b3, ⟨b4, b5, b6, b7, b8⟩, b9, b10, b11, b12, b13⟩ := hb
      obtain ⟨so, sd, sa, wo, wd, wa, has, ⟨fk, fa, fb, fc, fx⟩, ⟨tk, ta, tb, tc, tx⟩⟩ := f
      simp only at *
      simp at eh
      subst b1 b2 b3 b4 b5 b6 b7 b8 b9 b10 b11 b12 b13 eh k2
      rfl
    rw [ef]
    unfold Ft.chk
    rw [if_pos h0]
/-- What is read is right. -/
theorem parse_ok (l : List UInt8) : (Ft.parse l).2 = true → (Ft.parse l).1.ok = true := by
  have hc : ∀ f : Ft, f.chk.2 = true → f.chk.1.ok = true := fun f h => by
    unfold Ft.chk at *
    split at h
    · rename_i e; rw [if_pos e]; exact e
    · cases h
  unfold Ft.parse
  repeat' split
  all_goals first | exact hc _ | (intro h; cases h)
theorem parse_no (l : List UInt8) : (Ft.parse l).2 = false → (Ft.parse l).1 = .z := by
  have hc : ∀ f : Ft, f.chk.2 = false → f.chk.1 = .z := fun f h => by
    unfold Ft.chk at *
    split at h
    · cases h
    · rename_i e; rw [if_neg e]
  unfold Ft.parse
  repeat' split
  all_goals first | exact hc _ | (intro h; rfl)
end Go.Proofs.YtcopbcfekmbhlaaDoor.Pl
end
section
set_option linter.unusedVariables false
set_option linter.unusedSimpArgs false
namespace Go.Proofs.YtcopbcfekmbhlaaDoor
open Go Go.Proofs.YtcopbcfekmbhlaaDoor.Eng Go.Proofs.YtcopbcfekmbhlaaDoor.Pl
set_option linter.unusedVariables false
set_option linter.unusedSimpArgs false

theorem sHasPrefix (l : List UInt8) (c : UInt8) {K} (h : K (l.head? == some c)) : Xinternal_stringslite_HasPrefix (S l) (S [c]) K := by
  unfold Xinternal_stringslite_HasPrefix Yinternal_stringslite_HasPrefix
  simp only [S_size, S_extract, S_toList, decide_eq_true_eq, ge_iff_le, List.length_singleton]
  cases l with
  | nil => exact ifF (by simp) h
  | cons a l =>
    refine ifT (by simp; omega) (ifT (by simp; omega) ?_)
    have e : ((List.take (Int.toNat (((1 : Nat) : Int)) - 0) (List.drop 0 (a :: l)) == [c]) : Bool) = ((a :: l).head? == some c) := by
      simp
    rw [e]; exact h
theorem sCutPrefix (l : List UInt8) (c : UInt8) {K} (h : K (S (cutP c l).1) (cutP c l).2) : Xstrings_CutPrefix (S l) (S [c]) K := by
  unfold Xstrings_CutPrefix Ystrings_CutPrefix Xinternal_stringslite_CutPrefix Yinternal_stringslite_CutPrefix
  refine sHasPrefix l c ?_
  unfold cutP at h
  by_cases e : l.head? = some c
  · rw [if_pos e] at h
    refine ifF (by simp [e]) ?_
    have hl : 1 ≤ l.length := by cases l <;> simp at e ⊢
    simp only [S_size, S_extract, List.length_singleton]
    refine ifT (by omega) (ifT (by omega) ?_)
    have e2 : (l.drop (Int.toNat ((1 : Nat) : Int))).take (Int.toNat (l.length : Int) - Int.toNat ((1 : Nat) : Int)) = l.tail := by
      rw [List.take_of_length_le (by simp)]; simp
    rw [e2]; exact h
  · rw [if_neg e] at h
    exact ifT (by simp [e]) h
theorem sIndex (l : List UInt8) (c : UInt8) {K} (h : K (if nl (· == c) l < l.length then (nl (· == c) l : Int) else -1)) : Xinternal_stringslite_Index (S l) (S [c]) K := by
  unfold Xinternal_stringslite_Index Yinternal_stringslite_Index
  simp only [S_size, S_toList, beq_iff_eq, List.length_singleton]
  refine ifF (by decide) (ifC (fun e => ?_) fun _ => ifT rfl (ifT (by decide) ?_))
  · subst e
    have : nl (· == c) [c] = 0 := by rw [nl_cons]; simp
    rw [this] at h; exact h
  · unfold XindexByte
    rw [indexByte_nl, S_data]
    have : (Eng.bAt (S [c]) 0).toNat.toUInt8 = c := by rw [bAt0]; simp
    rw [this]; exact h
theorem sCut (l : List UInt8) (c : UInt8) (hl : l.length ≤ 140737488351232) {K} (h : K (S (splitL c l).1) (S (splitL c l).2.1) (splitL c l).2.2) : Xstrings_Cut (S l) (S [c]) K := by
  unfold Xstrings_Cut Ystrings_Cut Xinternal_stringslite_Cut Yinternal_stringslite_Cut
  refine sIndex l c ?_
  unfold splitL at h
  simp only [S_size, S_extract, List.length_singleton, decide_eq_true_eq, ge_iff_le]
  by_cases e : nl (· == c) l < l.length
  · rw [if_pos e] at h
    simp only [if_pos e]
    rw [w64_in (by omega) (by omega)]
    refine ifT (by omega) (ifT (by omega) (ifT (by omega) (ifT (by omega) (ifT (by omega) ?_))))
    have e1 : Int.toNat ((nl (· == c) l : Int) + ((1 : Nat) : Int)) = nl (· == c) l + 1 := by omega
    have e2 : Int.toNat ((nl (· == c) l : Int)) = nl (· == c) l := by omega
    rw [e1, e2]
    rw [show (l.drop (nl (· == c) l + 1)).take (Int.toNat (l.length : Int) - (nl (· == c) l + 1)) = l.drop (nl (· == c) l + 1) from List.take_of_length_le (by simp)]
    exact h
  · rw [if_neg e] at h
    simp only [if_neg e]
    exact ifF (by omega) h
theorem sTrimPrefix (l : List UInt8) (c : UInt8) {K} (h : K (S (cutP c l).1)) : Xstrings_TrimPrefix (S l) (S [c]) K := by
  unfold Xstrings_TrimPrefix Ystrings_TrimPrefix Xinternal_stringslite_TrimPrefix Yinternal_stringslite_TrimPrefix
  refine sHasPrefix l c ?_
  unfold cutP at h
  by_cases e : l.head? = some c
  · rw [if_pos e] at h
    refine ifT (by simp [e]) ?_
    have hl : 1 ≤ l.length := by cases l <;> simp at e ⊢
    simp only [S_size, S_extract, List.length_singleton]
    refine ifT (by omega) (ifT (by omega) ?_)
    have e2 : (l.drop (Int.toNat ((1 : Nat) : Int))).take (Int.toNat (l.length : Int) - Int.toNat ((1 : Nat) : Int)) = l.tail := by
      rw [List.take_of_length_le (by simp)]; simp
    rw [e2]; exact h
  · rw [if_neg e] at h
    exact ifF (by simp [e]) h

theorem sIndexFunc {x : Int → (Bool → Prop) → Prop} (q : UInt8 → Bool) (hx : ∀ (c : UInt8) (K : Bool → Prop), c.toNat < 128 → K (q c) → x (c.toNat : Int) K) (hx' : ∀ (n : Nat) (K : Bool → Prop), 128 ≤ n → K true → x (n : Int) K)
    (hq : ∀ c : UInt8, 128 ≤ c.toNat → q c = true) (l : List UInt8) {K : Int → Prop} (h : K (if nl q l < l.length then (nl q l : Int) else -1)) : Ystrings_indexFunc x (S l) true K := by
  unfold Ystrings_indexFunc
  refine lp_ind (fun st => l.length - st.2.1.2) (fun st => st.1.2.1 = true ∧ st.2.1.1 = S l ∧ st.2.1.2 ≤ l.length ∧ ∀ c ∈ l.take st.2.1.2, q c = false) ?_ ⟨rfl, rfl, Nat.zero_le _, by simp⟩
  rintro ⟨⟨⟨_, _⟩, b, r, _, _⟩, ⟨s, pos⟩, _⟩ ⟨h1, h2, h3, h4⟩ k hk
  simp only at h1 h2 h3 h4 hk
  subst h1; subst h2
  unfold Lstrings_indexFunc_0
  simp only [S_size]
  refine ifC (fun hp => ?_) fun hp => ?_
  · by_cases hlo : l[pos].toNat < 128
    · simp only [decode_lo l pos hp hlo]
      refine hx _ _ hlo ?_
      refine ifC (fun hb => ?_) fun hb => ?_
      · have hn : nl q l = pos := nl_of q l pos h3 h4 fun _ => by simpa using hb
        rw [hn, if_pos hp] at h; exact h
      · refine hk _ ⟨rfl, rfl, hp, fun c hc => ?_⟩ (by simp only; omega)
        rw [List.take_add_one, List.mem_append] at hc
        rcases hc with hc | hc
        · exact h4 c hc
        · simp [List.getElem?_eq_getElem hp] at hc
          subst hc; simpa using hb
    · obtain ⟨d1, d2⟩ := decode_hi l pos hp (by omega)
      refine hx' _ _ d1 (ifT rfl ?_)
      have hn : nl q l = pos := nl_of q l pos h3 h4 fun _ => hq _ (by omega)
      rw [hn, if_pos hp] at h; exact h
  · have hpos : pos = l.length := by omega
    have hn : nl q l = l.length := nl_of q l _ (Nat.le_refl _) (by rw [← hpos]; exact h4) fun h => by omega
    rw [hn, if_neg (by omega)] at h; exact h

theorem sgood (n : Int) {K} (h : K (decide ((97 ≤ n ∧ n ≤ 122) ∨ (65 ≤ n ∧ n ≤ 90) ∨ (48 ≤ n ∧ n ≤ 57) ∨ n = 43 ∨ n = 45))) : Xabbr_good n K := by
  unfold Xabbr_good Yabbr_good
  simp only [decide_eq_true_eq, beq_iff_eq, ge_iff_le]
  repeat' (first | refine ifT (by omega) ?_ | refine ifF (by omega) ?_ | refine ifC (fun _ => ?_) (fun _ => ?_))
  all_goals (refine cast (congrArg K ?_) h; first | (rw [decide_eq_true_eq]; omega) | (rw [decide_eq_false_iff_not]; omega) | (apply Bool.eq_iff_iff.2; rw [decide_eq_true_eq, beq_iff_eq]; omega))
theorem sbad (n : Int) {K} (h : K (!decide ((97 ≤ n ∧ n ≤ 122) ∨ (65 ≤ n ∧ n ≤ 90) ∨ (48 ≤ n ∧ n ≤ 57) ∨ n = 43 ∨ n = 45))) : Xabbr_Right_1 n K := by
  unfold Xabbr_Right_1 Yabbr_Right_1
  exact sgood n h
theorem sabbr (l : List UInt8) {K} (h : K (abbrL l)) : Xabbr_Right (S l) K := by
  unfold Xabbr_Right Yabbr_Right
  unfold abbrL at h
  simp only [decide_eq_true_eq, ge_iff_le, S_size]
  by_cases e : 3 ≤ l.length ∧ l.length ≤ 16
  · refine ifT (by omega) (ifT (by omega) ?_)
    unfold Xstrings_ContainsFunc Ystrings_ContainsFunc Xstrings_IndexFunc Ystrings_IndexFunc Xstrings_indexFunc
    refine sIndexFunc badC (fun c K hc h => sbad _ (cast (congrArg K ?_) h)) (fun n K hn h => sbad _ (cast (congrArg K ?_) h)) (fun c hc => ?_) l ?_
    · unfold badC; apply Bool.eq_iff_iff.2; simp; omega
    · symm; simp; omega
    · unfold badC; simp; omega
    · rw [decide_eq_true e, Bool.true_and, nl_any] at h
      by_cases e2 : nl badC l < l.length
      · rw [if_pos e2]; rw [decide_eq_true e2] at h
        refine cast (congrArg K ?_) h; simp
      · rw [if_neg e2]; rw [decide_eq_false e2] at h
        refine cast (congrArg K ?_) h; simp
  · rw [decide_eq_false e, Bool.false_and] at h
    exact ifC (fun _ => ifF (by omega) h) fun _ => h
end Go.Proofs.YtcopbcfekmbhlaaDoor
end
section
set_option linter.unusedVariables false
set_option linter.unusedSimpArgs false
namespace Go.Proofs.YtcopbcfekmbhlaaDoor
open Go Go.Proofs.YtcopbcfekmbhlaaDoor.Eng Go.Proofs.YtcopbcfekmbhlaaDoor.Pl
set_option linter.unusedVariables false
set_option linter.unusedSimpArgs false

theorem dl_of (l : List UInt8) (k : Nat) (hk : k ≤ l.length) (h1 : ∀ c ∈ l.take k, isDig c = true) (h2 : ∀ h : k < l.length, isDig l[k] = false) : dl l = k := by
  have := nl_of (fun c => !isDig c) l k hk (fun c hc => by simp [h1 c hc]) (fun h => by simp [h2 h])
  rw [← this]; unfold nl dl; simp
theorem sdigits (l : List UInt8) {K} (h : K (dl l : Int)) : Xrule_digits (S l) K := by
  unfold Xrule_digits Yrule_digits
  refine lp_ind (fun st => l.length - st.2.1.2) (fun st => st.1.1 = S l ∧ st.2.1.1 = S l ∧ st.2.1.2 ≤ l.length ∧ ∀ c ∈ l.take st.2.1.2, isDig c = true) ?_ ⟨rfl, rfl, Nat.zero_le _, by simp⟩
  rintro ⟨⟨a0, r, _, _⟩, ⟨s, pos⟩, _⟩ ⟨h1, h2, h3, h4⟩ k hk
  simp only at h1 h2 h3 h4 hk
  subst h1; subst h2
  unfold Lrule_digits_0
  simp only [S_size, decide_eq_true_eq, gt_iff_lt]
  refine ifC (fun hp => ?_) fun hp => ?_
  · by_cases hlo : l[pos].toNat < 128
    · simp only [decode_lo l pos hp hlo]
      by_cases hd : isDig l[pos] = true
      · have hd' := hd
        unfold isDig at hd'
        simp at hd'
        refine ifF (by omega) (ifF (by omega) ?_)
        refine hk _ ⟨rfl, rfl, hp, fun c hc => ?_⟩ (by simp only; omega)
        rw [List.take_add_one, List.mem_append] at hc
        rcases hc with hc | hc
        · exact h4 c hc
        · simp [List.getElem?_eq_getElem hp] at hc
          subst hc; exact hd
      · have hn : dl l = pos := dl_of l pos h3 h4 fun _ => by simpa using hd
        have hd' := hd
        unfold isDig at hd'
        simp at hd'
        rw [hn] at h
        exact ifC (fun _ => h) fun _ => ifT (by omega) h
    · obtain ⟨d1, d2⟩ := decode_hi l pos hp (by omega)
      have hn : dl l = pos := dl_of l pos h3 h4 fun _ => by unfold isDig; simp; omega
      rw [hn] at h
      exact ifF (by omega) (ifT (by omega) h)
  · have hpos : pos = l.length := by omega
    have hn : dl l = l.length := dl_of l _ (Nat.le_refl _) (by rw [← hpos]; exact h4) fun h => by omega
    rw [hn] at h; exact h

theorem satoi (l : List UInt8) (hne : l ≠ []) (hd : ∀ c ∈ l, isDig c = true) (hl : l.length ≤ 18) {K} (h : K (valL l : Int) .nilIface) : Xatoi (S l) K :=
  ⟨_, by rw [S_size]; exact hl, by rw [S_data]; exact atoi_val l hne hd, h⟩
theorem sitoa (n : Int) (h0 : -9223372036854775808 ≤ n) (h1 : n ≤ 9223372036854775807) {K} (h : K (S (itoaK n))) : Xitoa n K :=
  ⟨⟨h0, h1⟩, by rw [← itoaK_eq n h0 h1]; exact h⟩

theorem ssixty (l : List UInt8) {K} (h : K (sixtyL l).1 (S (sixtyL l).2.1) (sixtyL l).2.2) : Xrule_sixty (S l) K := by
  unfold Xrule_sixty Yrule_sixty
  simp only [S_size, S_extract, decide_eq_true_eq, gt_iff_lt, bne_iff_ne, ne_eq]
  match l, h with
  | [], h => exact ifT (by simp) h
  | [_], h => exact ifT (by simp) h
  | [_, _], h => exact ifT (by simp) h
  | c :: a :: b :: r, h =>
    have hlen : (c :: a :: b :: r).length = r.length + 3 := rfl
    rw [hlen]
    refine ifF (by omega) (ifT (by omega) ?_)
    rw [bAt0, bAt1]
    simp only [sixtyL] at h
    by_cases hc : c = 58
    · subst hc
      refine ifF (by simp) (ifT (by omega) (ifT (by omega) ?_))
      have e1 : ((58 :: a :: b :: r).drop 1).take (Int.toNat ((r.length + 3 : Nat) : Int) - 1) = a :: b :: r := by
        rw [List.drop_succ_cons, List.drop_zero, List.take_of_length_le (by simp; omega)]
      rw [e1]
      refine sdigits _ ?_
      rw [dl_cons, dl_cons]
      by_cases ha : isDig a = true
      · by_cases hb : isDig b = true
        · rw [if_pos ha, if_pos hb]
          refine ifF (by omega) (ifT (by omega) ?_)
          by_cases h5 : a.toNat ≤ 53
          · rw [if_pos ⟨rfl, ha, hb, h5⟩] at h
            refine ifF (by omega) (ifT (by omega) ?_)
            have e2 : ((58 :: a :: b :: r).drop 1).take (3 - 1) = [a, b] := rfl
            rw [e2]
            refine satoi [a, b] (by simp) (by simp [ha, hb]) (by simp) (ifT (by omega) (ifT (by omega) ?_))
            have e3 : ((58 :: a :: b :: r).drop 3).take (Int.toNat ((r.length + 3 : Nat) : Int) - 3) = r := by
              rw [show (58 :: a :: b :: r).drop 3 = r from rfl, List.take_of_length_le (by omega)]
            rw [e3]
            unfold isDig at ha hb
            simp at ha hb
            have e4 : (valL [a, b] : Int) = 10 * (a.toNat - 48) + (b.toNat - 48) := by simp [valL]; omega
            rw [e4]; exact h
          · rw [if_neg (by rintro ⟨_, _, _, h⟩; exact h5 h)] at h
            exact ifT (by omega) h
        · rw [if_neg (by rintro ⟨_, _, h, _⟩; exact hb h)] at h
          rw [if_pos ha, if_neg hb]
          exact ifT (by omega) h
      · rw [if_neg (by rintro ⟨_, h, _⟩; exact ha h)] at h
        rw [if_neg ha]
        exact ifT (by omega) h
    · rw [if_neg (by rintro ⟨h, _⟩; exact hc h)] at h
      refine ifT (fun h => hc (u8_eq ?_)) h
      have : c.toNat = 58 := by omega
      exact this
theorem smore (p : Int × List UInt8 × Bool) {K} (h : K (moreL p).1 (S (moreL p).2.1) (moreL p).2.2) : Xrule_more (S p.2.1) p.2.2 K := by
  unfold Xrule_more Yrule_more
  unfold moreL at h
  by_cases e : p.2.2 = true
  · rw [if_pos e] at h
    exact ifF (by simp [e]) (ssixty _ h)
  · rw [if_neg e] at h
    exact ifT (by simpa using e) h
theorem more_bd (t : List UInt8) : 0 ≤ (moreL (sixtyL t)).1 ∧ (moreL (sixtyL t)).1 ≤ 59 := by
  unfold moreL; split
  · exact sixty_bd _
  · simp
theorem stime (l : List UInt8) (hl : l.length ≤ 140737488351232) {K} (h : K (timeL l).1 (S (timeL l).2.1) (timeL l).2.2) : Xrule_Time (S l) K := by
  unfold Xrule_Time Yrule_Time
  have key : ∀ (t : List UInt8) (sg : Int), (sg = 1 ∨ sg = -1) → t.length ≤ l.length → signL l = (sg, t) →
      (dl t = 0 → K 0 (S l) false) ∧ (dl t ≠ 0 → ∃ v k : Nat, hourL t = (v, k) ∧ v ≤ 167 ∧ 1 ≤ k ∧ k ≤ dl t ∧ k ≤ 3 ∧
        K (sg * ((v : Int) * 3600 + (sixtyL (t.drop k)).1 * 60 + (moreL (sixtyL (t.drop k))).1)) (S (moreL (sixtyL (t.drop k))).2.1) true) := by
    intro t sg hsg ht he
    unfold timeL at h
    rw [he] at h
    refine ⟨fun h0 => by rw [if_pos h0] at h; exact h, fun h0 => ?_⟩
    rw [if_neg h0] at h
    obtain ⟨b1, b2, b3, b4⟩ := hour_bd t
    exact ⟨_, _, rfl, b1, b4 h0, b2, b3, h⟩
  have mn : ∀ t : List UInt8, (if (3 : Int) < (dl t : Int) then (3 : Int) else (dl t : Int)) = ((min (dl t) 3 : Nat) : Int) := fun t => by split <;> omega
  have hval : ∀ t : List UInt8, dl t ≠ 0 → ∀ {K : Int → Value → Prop}, K (valL (t.take (min (dl t) 3)) : Int) .nilIface → Xatoi (S ((t.drop 0).take (Int.toNat ((min (dl t) 3 : Nat) : Int) - 0))) K := fun t h0 K hK => by
    rw [List.drop_zero, Nat.sub_zero, Int.toNat_natCast]
    have hlen : (t.take (min (dl t) 3)).length = min (dl t) 3 := by rw [List.length_take]; have := dl_le t; omega
    exact satoi _ (fun e => by rw [e] at hlen; simp at hlen; omega) (take_dl_dig t _ (Nat.min_le_left _ _)) (by omega) hK
  have tdiv : ∀ v : Nat, Int.tdiv (v : Int) 10 = ((v / 10 : Nat) : Int) := fun v => by rw [Int.tdiv_eq_ediv_of_nonneg (by omega)]; rfl
  have fin : ∀ (t : List UInt8) (k : Nat), (t.drop k).take (t.length - k) = t.drop k := fun t k => List.take_of_length_le (by simp)
  refine sTrimPrefix l 45 ?_
  by_cases h45 : l.head? = some 45
  · obtain ⟨t, rfl⟩ : ∃ t, l = 45 :: t := by cases l with
      | nil => simp at h45
      | cons a t => simp at h45; subst h45; exact ⟨t, rfl⟩
    have e : (cutP 45 (45 :: t)).1 = t := rfl
    rw [e]
    obtain ⟨k1, k2⟩ := key t (-1) (.inr rfl) (by simp) rfl
    have hdl := dl_le t
    simp only [S_size, S_extract, beq_iff_eq, decide_eq_true_eq, gt_iff_lt]
    simp only [List.length_cons] at hl ⊢
    refine ifF (by omega) (sdigits _ ?_)
    rw [mn]
    refine ifC (fun h0 => k1 (by omega)) fun h0 => ?_
    have h0' : dl t ≠ 0 := by omega
    obtain ⟨v, kk, hh, b1, b2, b3, b4, hK⟩ := k2 h0'
    refine ifT (by omega) (ifT (by omega) (hval t h0' ?_))
    unfold hourL at hh
    by_cases hg : valL (t.take (min (dl t) 3)) > 167
    · rw [if_pos hg] at hh
      obtain ⟨rfl, rfl⟩ : _ = v ∧ _ = kk := by simpa using hh
      refine ifT (by omega) (ifT (by omega) ?_)
      rw [w64_in (n := ((min (dl t) 3 : Nat) : Int) - 1) (by omega) (by omega), show ((min (dl t) 3 : Nat) : Int) - 1 = ((min (dl t) 3 - 1 : Nat) : Int) by omega]
      refine ifT (by omega) ?_
      simp only [lt, Int.toNat_natCast, fin, tdiv]
      refine ssixty _ (smore _ ?_)
      have hs := sixty_bd (t.drop (min (dl t) 3 - 1))
      have hm := more_bd (t.drop (min (dl t) 3 - 1))
      generalize valL (t.take (min (dl t) 3)) / 10 = v at *
      generalize (sixtyL (t.drop (min (dl t) 3 - 1))).1 = a at *
      generalize (moreL (sixtyL (t.drop (min (dl t) 3 - 1)))).1 = b at *
      rw [w64_in (n := (v : Int)) (by omega) (by omega), w64_in (n := (v : Int) * 3600) (by omega) (by omega), w64_in (n := a * 60) (by omega) (by omega), w64_in (n := (v : Int) * 3600 + a * 60) (by omega) (by omega), w64_in (n := (v : Int) * 3600 + a * 60 + b) (by omega) (by omega), w64_in (by omega) (by omega)]
      exact hK
    · rw [if_neg hg] at hh
      obtain ⟨rfl, rfl⟩ : _ = v ∧ _ = kk := by simpa using hh
      refine ifF (by omega) (ifT (by omega) (ifT (by omega) ?_))
      simp only [lt, Int.toNat_natCast, fin]
      refine ssixty _ (smore _ ?_)
      have hs := sixty_bd (t.drop (min (dl t) 3))
      have hm := more_bd (t.drop (min (dl t) 3))
      generalize valL (t.take (min (dl t) 3)) = v at *
      generalize (sixtyL (t.drop (min (dl t) 3))).1 = a at *
      generalize (moreL (sixtyL (t.drop (min (dl t) 3)))).1 = b at *
      rw [w64_in (n := (v : Int) * 3600) (by omega) (by omega), w64_in (n := a * 60) (by omega) (by omega), w64_in (n := (v : Int) * 3600 + a * 60) (by omega) (by omega), w64_in (n := (v : Int) * 3600 + a * 60 + b) (by omega) (by omega), w64_in (by omega) (by omega)]
      exact hK
  · have e : (cutP 45 l).1 = l := by unfold cutP; rw [if_neg h45]
    rw [e]
    refine ifT (by simp) (sTrimPrefix l 43 ?_)
    have hs : ∃ t, signL l = (1, t) ∧ (cutP 43 l).1 = t ∧ t.length ≤ l.length := by
      unfold signL cutP
      cases l with
      | nil => exact ⟨[], rfl, rfl, Nat.le_refl _⟩
      | cons a r =>
        have ha : a ≠ 45 := by simpa using h45
        simp only [if_neg ha, List.head?_cons, Option.some.injEq, List.tail_cons]
        by_cases h43 : a = 43
        · simp [h43]
        · simp [h43]
    obtain ⟨t, h1, h2, h3⟩ := hs
    rw [h2]
    obtain ⟨k1, k2⟩ := key t 1 (.inl rfl) h3 h1
    have hdl := dl_le t
    simp only [S_size, S_extract, beq_iff_eq, decide_eq_true_eq, gt_iff_lt]
    refine sdigits _ ?_
    rw [mn]
    refine ifC (fun h0 => k1 (by omega)) fun h0 => ?_
    have h0' : dl t ≠ 0 := by omega
    obtain ⟨v, kk, hh, b1, b2, b3, b4, hK⟩ := k2 h0'
    refine ifT (by omega) (ifT (by omega) (hval t h0' ?_))
    unfold hourL at hh
    by_cases hg : valL (t.take (min (dl t) 3)) > 167
    · rw [if_pos hg] at hh
      obtain ⟨rfl, rfl⟩ : _ = v ∧ _ = kk := by simpa using hh
      refine ifT (by omega) (ifT (by omega) ?_)
      rw [w64_in (n := ((min (dl t) 3 : Nat) : Int) - 1) (by omega) (by omega), show ((min (dl t) 3 : Nat) : Int) - 1 = ((min (dl t) 3 - 1 : Nat) : Int) by omega]
      refine ifT (by omega) ?_
      simp only [lt, Int.toNat_natCast, fin, tdiv]
      refine ssixty _ (smore _ ?_)
      have hs := sixty_bd (t.drop (min (dl t) 3 - 1))
      have hm := more_bd (t.drop (min (dl t) 3 - 1))
      generalize valL (t.take (min (dl t) 3)) / 10 = v at *
      generalize (sixtyL (t.drop (min (dl t) 3 - 1))).1 = a at *
      generalize (moreL (sixtyL (t.drop (min (dl t) 3 - 1)))).1 = b at *
      rw [w64_in (n := (v : Int)) (by omega) (by omega), w64_in (n := (v : Int) * 3600) (by omega) (by omega), w64_in (n := a * 60) (by omega) (by omega), w64_in (n := (v : Int) * 3600 + a * 60) (by omega) (by omega), w64_in (n := (v : Int) * 3600 + a * 60 + b) (by omega) (by omega), w64_in (by omega) (by omega)]
      exact hK
    · rw [if_neg hg] at hh
      obtain ⟨rfl, rfl⟩ : _ = v ∧ _ = kk := by simpa using hh
      refine ifF (by omega) (ifT (by omega) (ifT (by omega) ?_))
      simp only [lt, Int.toNat_natCast, fin]
      refine ssixty _ (smore _ ?_)
      have hs := sixty_bd (t.drop (min (dl t) 3))
      have hm := more_bd (t.drop (min (dl t) 3))
      generalize valL (t.take (min (dl t) 3)) = v at *
      generalize (sixtyL (t.drop (min (dl t) 3))).1 = a at *
      generalize (moreL (sixtyL (t.drop (min (dl t) 3)))).1 = b at *
      rw [w64_in (n := (v : Int) * 3600) (by omega) (by omega), w64_in (n := a * 60) (by omega) (by omega), w64_in (n := (v : Int) * 3600 + a * 60) (by omega) (by omega), w64_in (n := (v : Int) * 3600 + a * 60 + b) (by omega) (by omega), w64_in (by omega) (by omega)]
      exact hK
end Go.Proofs.YtcopbcfekmbhlaaDoor
end
section
set_option linter.unusedVariables false
set_option linter.unusedSimpArgs false
namespace Go.Proofs.YtcopbcfekmbhlaaDoor
open Go Go.Proofs.YtcopbcfekmbhlaaDoor.Eng Go.Proofs.YtcopbcfekmbhlaaDoor.Pl
set_option linter.unusedVariables false
set_option linter.unusedSimpArgs false

theorem take_all (t : List UInt8) (k : Nat) : (t.drop k).take (t.length - k) = t.drop k := List.take_of_length_le (by simp)
theorem swithin (n a b : Int) {K} (h : K (decide (a ≤ n ∧ n ≤ b))) : Xrule_within n a b K := by
  unfold Xrule_within Yrule_within
  simp only [decide_eq_true_eq, ge_iff_le]
  refine ifC (fun h1 => cast (congrArg K ?_) h) fun h1 => cast (congrArg K ?_) h
  · simp [h1]
  · simp [h1]
theorem sruleRight (k a b c x : Int) {K} (h : K (rightR k a b c x)) : Xrule_Right (k, a, b, c, x, ()) K := by
  unfold Xrule_Right Yrule_Right
  simp only [beq_iff_eq, decide_eq_true_eq, gt_iff_lt]
  refine swithin _ _ _ ?_
  have fin : ∀ z : Bool, (z = true ↔ ((-604799 ≤ x ∧ x ≤ 604799) ∧ ((k = 0 ∧ 1 ≤ a ∧ a ≤ 12 ∧ 1 ≤ b ∧ b ≤ 5 ∧ 0 ≤ c ∧ c ≤ 6) ∨ (k = 1 ∧ 1 ≤ a ∧ a ≤ 365 ∧ b = 0 ∧ c = 0) ∨ (k = 2 ∧ 0 ≤ a ∧ a ≤ 365 ∧ b = 0 ∧ c = 0)))) → K z := fun z hz =>
    cast (congrArg K (Bool.eq_iff_iff.2 ((right_iff k a b c x).trans hz.symm))) h
  clear h
  refine ifC (fun k0 => ?_) fun k0 => ?_
  · refine ifC (fun hx => ?_) fun hx => fin _ ?_
    · refine swithin _ _ _ (ifC (fun ha => swithin _ _ _ (ifC (fun hb => swithin _ _ _ (fin _ ?_)) fun hb => fin _ ?_)) fun ha => fin _ ?_)
      all_goals (simp only [decide_eq_true_eq, Bool.false_eq_true, false_iff] at *; omega)
    · simp only [decide_eq_true_eq, Bool.false_eq_true, false_iff] at *; omega
  · refine ifC (fun k1 => ?_) fun k1 => ifC (fun k2 => ?_) fun k2 => fin _ (by simp only [Bool.false_eq_true, false_iff]; omega)
    · refine ifC (fun hx => ifC (fun ha => swithin _ _ _ (ifC (fun hb => ifC (fun hc => fin _ ?_) fun hc => fin _ ?_) fun hb => fin _ ?_)) fun ha => fin _ ?_) fun hx => fin _ ?_
      all_goals (simp only [decide_eq_true_eq, Bool.false_eq_true, false_iff, beq_iff_eq] at *; omega)
    · refine ifC (fun hx => swithin _ _ _ (ifC (fun hb => ifC (fun hc => fin _ ?_) fun hc => fin _ ?_) fun hb => fin _ ?_)) fun hx => fin _ ?_
      all_goals (simp only [decide_eq_true_eq, Bool.false_eq_true, false_iff, beq_iff_eq] at *; omega)
theorem snumber (l : List UInt8) (m : Nat) (hm : m ≤ 18) {K} (h : K (numberL l m).1 (S (numberL l m).2.1) (numberL l m).2.2) : Xrule_number (S l) (m : Int) K := by
  unfold Xrule_number Yrule_number
  refine sdigits _ ?_
  have hd := dl_le l
  unfold numberL at h
  simp only [beq_iff_eq, decide_eq_true_eq, gt_iff_lt, S_size, S_extract, Int.toNat_natCast, take_all, List.drop_zero, Nat.sub_zero]
  by_cases e : dl l = 0 ∨ m < dl l
  · rw [if_pos e] at h
    exact ifC (fun _ => h) fun _ => ifT (by omega) h
  · rw [if_neg e] at h
    refine ifF (by omega) (ifF (by omega) (ifT (by omega) (ifT (by omega) ?_)))
    have hlen : (l.take (dl l)).length = dl l := by rw [List.length_take]; omega
    exact satoi _ (fun e => by rw [e] at hlen; simp at hlen; omega) (take_dl_dig l _ (Nat.le_refl _)) (by omega) (ifT (by omega) (ifT (by omega) h))
theorem sweek (l : List UInt8) {K} (h : K (0, (weekL l).1, (weekL l).2.1, (weekL l).2.2.1, 0, ()) (S (weekL l).2.2.2.1) (weekL l).2.2.2.2) : Xrule_week (S l) K := by
  unfold Xrule_week Yrule_week
  refine snumber l 2 (by omega) (sCutPrefix _ _ (snumber _ 1 (by omega) (sCutPrefix _ _ (snumber _ 1 (by omega) ?_))))
  unfold weekL at h
  generalize numberL l 2 = p at *
  generalize cutP 46 p.2.1 = q at *
  generalize numberL q.1 1 = r at *
  generalize cutP 46 r.2.1 = t at *
  generalize numberL t.1 1 = u at *
  obtain ⟨p1, p2, p3⟩ := p
  obtain ⟨q1, q2⟩ := q
  obtain ⟨r1, r2, r3⟩ := r
  obtain ⟨t1, t2⟩ := t
  obtain ⟨u1, u2, u3⟩ := u
  simp only at h ⊢
  cases p3 <;> cases r3 <;> cases u3 <;> cases q2 <;> simpa using h
theorem sdate (l : List UInt8) {K} (h : K ((dateL l).1, (dateL l).2.1, (dateL l).2.2.1, (dateL l).2.2.2.1, 0, ()) (S (dateL l).2.2.2.2.1) (dateL l).2.2.2.2.2) : Xrule_date (S l) K := by
  unfold Xrule_date Yrule_date
  refine sCutPrefix _ _ ?_
  unfold dateL at h
  unfold cutP
  by_cases e : l.head? = some 77
  · rw [if_pos e] at h ⊢
    exact ifT rfl (sweek _ h)
  · rw [if_neg e] at h ⊢
    refine ifF (by simp) (sCutPrefix _ _ ?_)
    unfold cutP
    by_cases e2 : l.head? = some 74
    · rw [if_pos e2] at h ⊢
      exact ifT rfl (snumber _ 3 (by omega) h)
    · rw [if_neg e2] at h ⊢
      exact ifF (by simp) (snumber _ 3 (by omega) h)
theorem date_len (l : List UInt8) : (dateL l).2.2.2.2.1.length ≤ l.length := by
  obtain ⟨j, _, e, _⟩ := dateL_drop l
  rw [e, List.length_drop]; omega
theorem sruleParse (l : List UInt8) (hl : l.length ≤ 140737488351232) {K} (h : K ((parseL l).1, (parseL l).2.1, (parseL l).2.2.1, (parseL l).2.2.2.1, (parseL l).2.2.2.2.1, ()) (S (parseL l).2.2.2.2.2.1) (parseL l).2.2.2.2.2.2) : Xrule_Parse (S l) K := by
  unfold Xrule_Parse Yrule_Parse
  refine sdate _ (sCutPrefix _ _ ?_)
  have hlen := date_len l
  unfold parseL at h
  generalize dateL l = d at *
  obtain ⟨dk, da, db, dc, dt, ok⟩ := d
  simp only at h hlen ⊢
  unfold cutP
  by_cases e : dt.head? = some 47
  · rw [if_pos e] at h ⊢
    cases ok
    · simp only [Bool.false_eq_true, if_false] at h
      exact ifF (by simp) (ifT rfl h)
    · simp only [if_true] at h
      refine ifT rfl (ifT rfl (stime _ (by rw [List.length_tail]; omega) ?_))
      by_cases e2 : (timeL dt.tail).2.2 = true
      · refine ifF (by simp [e2]) (sruleRight _ _ _ _ _ ?_)
        by_cases e3 : rightR dk da db dc (timeL dt.tail).1 = true
        · rw [if_pos ⟨e2, e3⟩] at h
          exact ifF (by simp [e3]) h
        · rw [if_neg (fun h => e3 h.2)] at h
          exact ifT (by simpa using e3) h
      · rw [if_neg (fun h => e2 h.1)] at h
        exact ifT (by simpa using e2) h
  · rw [if_neg e] at h ⊢
    cases ok
    · simp only [Bool.false_eq_true, if_false] at h
      exact ifF (by simp) (ifT rfl h)
    · simp only [if_true] at h
      refine ifT rfl (ifF (by simp) (ifF (by simp) (sruleRight _ _ _ _ _ ?_)))
      by_cases e3 : rightR dk da db dc 7200 = true
      · rw [if_pos e3] at h
        exact ifF (by simp [e3]) h
      · rw [if_neg e3] at h
        exact ifT (by simpa using e3) h
theorem tdivN (v m : Nat) : Int.tdiv (v : Int) (m : Int) = ((v / m : Nat) : Int) := by rw [Int.tdiv_eq_ediv_of_nonneg (by omega)]; rfl
theorem tmodN (v m : Nat) : Int.tmod (v : Int) (m : Int) = ((v % m : Nat) : Int) := by rw [Int.tmod_eq_emod_of_nonneg (by omega)]; rfl
theorem itoaK_len' (n : Int) : (itoaK n).length ≤ 21 := itoaK_len n
theorem spair (m : Nat) (hm : m < 100000) {K} (h : K (S (pairL m))) : Xrule_pair (m : Int) K := by
  unfold Xrule_pair Yrule_pair
  rw [show (10 : Int) = ((10 : Nat) : Int) from rfl, tdivN, tmodN, w64_in (by omega) (by omega)]
  refine sitoa _ (by omega) (by omega) ?_
  have l1 := itoaK_len ((m / 10 : Nat) : Int)
  have l2 := itoaK_len ((m % 10 : Nat) : Int)
  simp only [S_size, S_append, lt, List.length_append, List.length_singleton]
  refine ifF (by omega) (sitoa _ (by omega) (by omega) ?_)
  simp only [S_size, S_append, lt, List.length_append, List.length_singleton]
  refine ifF (by omega) ?_
  unfold pairL at h
  rw [itoaK_nat, itoaK_nat]
  simpa using h
theorem clockB_len (a : Nat) : (clockB a).length ≤ 102 := by
  have l1 := digsN_len 20 (a / 3600)
  have l2 := pairL_len (a / 60 % 60)
  have l3 := pairL_len (a % 60)
  unfold clockB
  rw [List.length_append]
  repeat' split
  all_goals first | omega | (simp only [List.length_append, List.length_nil]; omega)
theorem sclock (x : Int) {K} (h : K (S (clockL x).1) (clockL x).2) : Xrule_Clock x K := by
  unfold Xrule_Clock Yrule_Clock
  refine swithin _ _ _ ?_
  unfold clockL at h
  by_cases e : -604799 ≤ x ∧ x ≤ 604799
  · rw [if_pos e] at h
    refine ifF (by simp [e]) ?_
    simp only [decide_eq_true_eq, bne_iff_ne, ne_eq, lt]
    have key : ∀ (a : Nat), a ≤ 604799 → ((a : Int) = if x < 0 then 0 - x else x) → K (S ((if x < 0 then [45] else []) ++ clockB a)) true := fun a ha he => by
      have : x.natAbs = a := by split at he <;> omega
      rw [this] at h; exact h
    obtain ⟨a, ha⟩ : ∃ a : Nat, (a : Int) = if x < 0 then 0 - x else x := ⟨x.natAbs, by split <;> omega⟩
    have ha' : a ≤ 604799 := by split at ha <;> omega
    have hk := key a ha' ha
    have l1 := digsN_len 20 (a / 3600)
    have l2 := pairL_len (a / 60 % 60)
    have l3 := pairL_len (a % 60)
    have c3600 : (3600 : Int) = ((3600 : Nat) : Int) := rfl
    have c60 : (60 : Int) = ((60 : Nat) : Int) := rfl
    refine ifC (fun hneg => ?_) fun hneg => ?_
    · rw [if_pos hneg] at ha hk
      rw [w64_in (n := 0 - x) (by omega) (by omega), ← ha, c3600, c60, tdivN, tdivN, tmodN, w64_in (by omega) (by omega), w64_in (by omega) (by omega), tmodN]
      refine sitoa _ (by omega) (by omega) ?_
      rw [itoaK_nat]
      simp only [S_size, S_append, List.length_append, List.length_singleton]
      refine ifF (by omega) ?_
      unfold clockB at hk
      refine ifC (fun hs => ?_) fun hs => ?_
      · rw [if_pos (by omega)] at hk
        refine spair _ (by omega) (spair _ (by omega) ?_)
        simp only [S_size, S_append, List.length_append, List.length_singleton]
        refine ifF (by omega) (ifF (by omega) ?_)
        simpa [List.append_assoc] using hk
      · rw [if_neg (by omega)] at hk
        refine ifC (fun hm => ?_) fun hm => ?_
        · rw [if_pos (by omega)] at hk
          refine spair _ (by omega) ?_
          simp only [S_size, S_append, List.length_append, List.length_singleton]
          refine ifF (by omega) ?_
          simpa [List.append_assoc] using hk
        · rw [if_neg (by omega)] at hk
          simpa [List.append_assoc] using hk
    · rw [if_neg hneg] at ha hk
      rw [← ha, c3600, c60, tdivN, tdivN, tmodN, w64_in (by omega) (by omega), w64_in (by omega) (by omega), tmodN]
      refine sitoa _ (by omega) (by omega) ?_
      rw [itoaK_nat]
      simp only [S_size, S_append, List.length_append, List.length_singleton, List.nil_append, List.length_nil]
      refine ifF (by omega) ?_
      unfold clockB at hk
      refine ifC (fun hs => ?_) fun hs => ?_
      · rw [if_pos (by omega)] at hk
        refine spair _ (by omega) (spair _ (by omega) ?_)
        simp only [S_size, S_append, List.length_append, List.length_singleton]
        refine ifF (by omega) (ifF (by omega) ?_)
        simpa [List.append_assoc] using hk
      · rw [if_neg (by omega)] at hk
        refine ifC (fun hm => ?_) fun hm => ?_
        · rw [if_pos (by omega)] at hk
          refine spair _ (by omega) ?_
          simp only [S_size, S_append, List.length_append, List.length_singleton]
          refine ifF (by omega) ?_
          simpa [List.append_assoc] using hk
        · rw [if_neg (by omega)] at hk
          simpa [List.append_assoc] using hk
  · rw [if_neg e] at h
    exact ifT (by rw [decide_eq_false e]; rfl) h
theorem sruleText (k a b c x : Int) {K} (h : K (S (textL k a b c x).1) (textL k a b c x).2) : Xrule_Text (k, a, b, c, x, ()) K := by
  unfold Xrule_Text Yrule_Text
  refine sruleRight _ _ _ _ _ ?_
  unfold textL at h
  by_cases e : rightR k a b c x = true
  · rw [if_pos e] at h
    obtain ⟨hx, hr⟩ := (right_iff k a b c x).1 e
    have l1 := itoaK_len a
    have l2 := itoaK_len b
    have l3 := itoaK_len c
    have l4 := clockL_len x
    unfold headL tailL at h
    simp only [beq_iff_eq, bne_iff_ne, ne_eq, lt]
    refine ifF (by simp [e]) (sitoa _ (by omega) (by omega) ?_)
    refine ifC (fun k0 => ?_) fun k0 => ?_
    · subst k0
      rw [if_pos rfl] at h
      simp only [S_size, S_append, List.length_append, List.length_singleton]
      refine ifF (by omega) (ifF (by omega) (sitoa _ (by omega) (by omega) ?_))
      simp only [S_size, S_append, List.length_append, List.length_singleton]
      refine ifF (by omega) (ifF (by omega) (sitoa _ (by omega) (by omega) ?_))
      simp only [S_size, S_append, List.length_append, List.length_singleton]
      refine ifF (by omega) ?_
      refine ifC (fun hs => ?_) fun hs => ?_
      · rw [if_neg hs] at h
        refine sclock _ ?_
        simp only [S_size, S_append, List.length_append, List.length_singleton]
        refine ifF (by omega) (ifF (by omega) ?_)
        simpa [List.append_assoc] using h
      · rw [if_pos (by omega)] at h
        simpa [List.append_assoc] using h
    · rw [if_neg k0] at h
      refine ifC (fun k1 => ?_) fun k1 => ?_
      · rw [if_pos k1] at h
        simp only [S_size, S_append, List.length_append, List.length_singleton]
        refine ifF (by omega) ?_
        refine ifC (fun hs => ?_) fun hs => ?_
        · rw [if_neg hs] at h
          refine sclock _ ?_
          simp only [S_size, S_append, List.length_append, List.length_singleton]
          refine ifF (by omega) (ifF (by omega) ?_)
          simpa [List.append_assoc] using h
        · rw [if_pos (by omega)] at h
          simpa [List.append_assoc] using h
      · rw [if_neg k1] at h
        refine ifC (fun hs => ?_) fun hs => ?_
        · rw [if_neg hs] at h
          refine sclock _ ?_
          simp only [S_size, S_append, List.length_append, List.length_singleton]
          refine ifF (by omega) (ifF (by omega) ?_)
          simpa [List.append_assoc] using h
        · rw [if_pos (by omega)] at h
          simpa [List.append_assoc] using h
  · rw [if_neg e] at h
    exact ifT (by simpa using e) h
end Go.Proofs.YtcopbcfekmbhlaaDoor
end
section
set_option linter.unusedVariables false
set_option linter.unusedSimpArgs false
namespace Go.Proofs.YtcopbcfekmbhlaaDoor
open Go Go.Proofs.YtcopbcfekmbhlaaDoor.Eng Go.Proofs.YtcopbcfekmbhlaaDoor.Pl
set_option linter.unusedVariables false
set_option linter.unusedSimpArgs false

theorem tmod_leap (y : Int) : (Int.tmod y 4 = 0 ↔ y % 4 = 0) ∧ (Int.tmod y 100 = 0 ↔ y % 100 = 0) ∧ (Int.tmod y 400 = 0 ↔ y % 400 = 0) := by
  refine ⟨?_, ?_, ?_⟩ <;> rw [← Int.dvd_iff_emod_eq_zero, Int.dvd_iff_tmod_eq_zero]
theorem sleap (y : Int) {K} (h : K (leapY y)) : Xday_Leap y K := by
  unfold Xday_Leap Yday_Leap
  obtain ⟨t1, t2, t3⟩ := tmod_leap y
  have fin : ∀ z : Bool, (z = true ↔ (y % 4 = 0 ∧ (y % 100 ≠ 0 ∨ y % 400 = 0))) → K z := fun z hz => cast (congrArg K (Bool.eq_iff_iff.2 ((leapY_iff y).trans hz.symm))) h
  simp only [beq_iff_eq, bne_iff_ne, ne_eq, t1, t2]
  refine ifC (fun h1 => ifC (fun h2 => fin _ ?_) fun h2 => fin _ ?_) fun h1 => fin _ ?_
  · simp; omega
  · rw [beq_iff_eq, t3]; omega
  · simp; omega
theorem slast (y m : Int) {K} (h : K (if 1 ≤ y ∧ y ≤ 9999 ∧ 1 ≤ m ∧ m ≤ 12 then dim y m else 0) (decide (1 ≤ y ∧ y ≤ 9999 ∧ 1 ≤ m ∧ m ≤ 12))) : Xday_Last y m K := by
  unfold Xday_Last Yday_Last
  simp only [decide_eq_true_eq, gt_iff_lt]
  by_cases e : 1 ≤ y ∧ y ≤ 9999 ∧ 1 ≤ m ∧ m ≤ 12
  · rw [if_pos e, decide_eq_true e] at h
    refine ifF (by omega) (ifF (by omega) (ifF (by omega) (ifF (by omega) ?_)))
    rw [w64_in (by omega) (by omega)]
    refine ifT (by omega) ?_
    rcases month_cases e.2.2.1 e.2.2.2 with rfl | rfl | rfl | rfl | rfl | rfl | rfl | rfl | rfl | rfl | rfl | rfl
    all_goals
      simp only [Int.sub_self, Int.reduceSub, Int.reduceToNat, Nat.reduceMul, List.getElem?_cons_zero, List.getElem?_cons_succ, Eng.asInt, if_true, beq_iff_eq, Int.toNat_zero, Nat.zero_mul, beq_self_eq_true, Int.reduceBEq, Bool.false_eq_true, if_false]
      first
      | exact h
      | (refine sleap _ ?_
         unfold dim at h
         rw [if_pos rfl] at h
         refine ifC (fun hl => ?_) fun hl => ?_
         · rw [if_pos hl] at h; exact h
         · rw [if_neg hl] at h; exact h)
  · rw [if_neg e, decide_eq_false e] at h
    exact ifC (fun _ => h) fun _ => ifC (fun _ => h) fun _ => ifC (fun _ => h) fun _ => ifT (by omega) h
theorem ediv_in (a b : Int) (h0 : -9223372036854775808 ≤ a) (h1 : a ≤ 9223372036854775807) (hb : 1 ≤ b) : -9223372036854775808 ≤ a / b ∧ a / b ≤ 9223372036854775807 := by
  constructor
  · have : a ≤ a / b ∨ 0 ≤ a / b := by
      by_cases hn : 0 ≤ a
      · exact .inr (Int.ediv_nonneg hn (by omega))
      · refine .inl (Int.le_ediv_of_mul_le (by omega) ?_)
        have : (b - 1) * a ≤ 0 := Int.mul_nonpos_of_nonneg_of_nonpos (by omega) (by omega)
        rw [Int.sub_mul, Int.mul_comm b a] at this
        omega
    omega
  · have := Int.ediv_le_self (a := a) b
    by_cases hn : 0 ≤ a
    · have := this hn; omega
    · have := Int.ediv_neg_of_neg_of_pos (by omega : a < 0) (by omega : 0 < b); omega
theorem sdiv (a b : Int) (h0 : -9223372036854775808 ≤ a) (h1 : a ≤ 9223372036854775807) (hb : 1 ≤ b) (hb' : b ≤ 9223372036854775807) {K} (h : K (a / b) (a % b) true) : Xnum_Div a b K := by
  unfold Xnum_Div Ynum_Div
  have hm := Int.emod_nonneg a (by omega : b ≠ 0)
  have hm2 := Int.emod_lt_of_pos a (by omega : 0 < b)
  obtain ⟨hq1, hq2⟩ := ediv_in a b h0 h1 hb
  simp only [decide_eq_true_eq, lt]
  refine ifF (by omega) (ifF (by omega) (ifF (by omega) ?_))
  by_cases hn : 0 ≤ a
  · rw [Int.tmod_eq_emod_of_nonneg hn, Int.tdiv_eq_ediv_of_nonneg hn]
    refine ifF (by omega) ?_
    rw [w64_in hq1 hq2]; exact h
  · by_cases hz : a % b = 0
    · have hd : b ∣ a := Int.dvd_of_emod_eq_zero hz
      have e1 : Int.tmod a b = 0 := Int.tmod_eq_zero_of_dvd hd
      have e2 : Int.tdiv a b = a / b := by
        obtain ⟨c, rfl⟩ := hd
        rw [Int.mul_tdiv_cancel_left _ (by omega), Int.mul_ediv_cancel_left _ (by omega)]
      rw [e1, e2]
      refine ifF (by omega) ?_
      rw [w64_in hq1 hq2, ← hz]; exact h
    · have e1 : Int.tmod a b = a % b - b := by
        rw [Int.tmod_eq_emod]
        have : ¬ (0 ≤ a ∨ b ∣ a) := by
          rintro (h | h)
          · exact hn h
          · exact hz (Int.emod_eq_zero_of_dvd h)
        rw [if_neg this]
        have : (b.natAbs : Int) = b := by omega
        omega
      have e2 : Int.tdiv a b = a / b + 1 := by
        have := Int.mul_tdiv_add_tmod a b
        rw [e1] at this
        have hdm := Int.mul_ediv_add_emod a b
        have h2 : b * (Int.tdiv a b) = b * (a / b + 1) := by rw [Int.mul_add]; omega
        exact Int.eq_of_mul_eq_mul_left (by omega) h2
      have hlt : a / b < 0 := Int.ediv_neg_of_neg_of_pos (by omega) (by omega)
      rw [e1, e2]
      refine ifT (by omega) ?_
      rw [w64_in (n := a / b + 1) (by omega) (by omega), w64_in (by omega) (by omega), w64_in (by omega) (by omega), show a / b + 1 - 1 = a / b by omega, show a % b - b + b = a % b by omega]
      exact h
theorem sdiv0 (a b : Int) (hb : b < 1) {K} (h : K 0 0 false) : Xnum_Div a b K := by
  unfold Xnum_Div Ynum_Div
  exact ifT (by simpa using hb) h
theorem sweekday (n : Int) (h0 : -9223372036854775808 ≤ n) (h1 : n ≤ 9223372036854775807) {K} (h : K (wk n)) : Xday_Week n K := by
  unfold Xday_Week Yday_Week
  have ht : -7 < Int.tmod n 7 ∧ Int.tmod n 7 < 7 ∧ (Int.tmod n 7 + 4) % 7 = (n + 4) % 7 := by
    rw [Int.tmod_eq_emod]; split <;> simp <;> omega
  rw [w64_in (by omega) (by omega)]
  refine sdiv _ _ (by omega) (by omega) (by omega) (by omega) ?_
  rw [ht.2.2]; exact h
def okD (y m d : Int) : Prop := 1 ≤ y ∧ y ≤ 9999 ∧ 1 ≤ m ∧ m ≤ 12 ∧ 1 ≤ d ∧ d ≤ dim y m
instance (y m d : Int) : Decidable (okD y m d) := by unfold okD; infer_instance
theorem snum (y m d : Int) (hd0 : -9223372036854775808 ≤ d) (hd1 : d ≤ 9223372036854775807) {K} (h : K (if okD y m d then num y m d else 0) (decide (okD y m d))) : Xday_Number y m d K := by
  unfold Xday_Number Yday_Number
  refine slast _ _ ?_
  simp only [decide_eq_true_eq, gt_iff_lt, lt]
  by_cases e : 1 ≤ y ∧ y ≤ 9999 ∧ 1 ≤ m ∧ m ≤ 12
  · rw [decide_eq_true e, if_pos e]
    refine ifF (by simp) ?_
    by_cases e2 : 1 ≤ d ∧ d ≤ dim y m
    · have ok : okD y m d := ⟨e.1, e.2.1, e.2.2.1, e.2.2.2, e2.1, e2.2⟩
      rw [if_pos ok, decide_eq_true ok] at h
      refine ifF (by omega) (ifF (by omega) ?_)
      have hd := dim_bd y m
      rw [← numP_eq e.2.2.1 e.2.2.2] at h
      unfold numP sy sm at h
      refine ifC (fun hm => ?_) fun hm => ?_
      · rw [if_pos hm, if_pos hm] at h
        rw [w64_in (n := y - 1) (by omega) (by omega)]
        refine sdiv _ _ (by omega) (by omega) (by omega) (by omega) ?_
        have b1 : 0 ≤ (y - 1) % 400 ∧ (y - 1) % 400 ≤ 399 := by omega
        have b2 : 0 ≤ (y - 1) / 400 ∧ (y - 1) / 400 ≤ 25 := by omega
        generalize (y - 1) % 400 = r at *
        generalize (y - 1) / 400 = q at *
        simp (disch := omega) only [w64_in, Int.tdiv_eq_ediv_of_nonneg]
        refine cast (congrArg (fun z => K z true) ?_) h
        omega
      · rw [if_neg hm, if_neg hm] at h
        refine sdiv _ _ (by omega) (by omega) (by omega) (by omega) ?_
        have b1 : 0 ≤ y % 400 ∧ y % 400 ≤ 399 := by omega
        have b2 : 0 ≤ y / 400 ∧ y / 400 ≤ 25 := by omega
        generalize y % 400 = r at *
        generalize y / 400 = q at *
        simp (disch := omega) only [w64_in, Int.tdiv_eq_ediv_of_nonneg]
        refine cast (congrArg (fun z => K z true) ?_) h
        omega
    · have ok : ¬ okD y m d := fun h => e2 h.2.2.2.2
      rw [if_neg ok, decide_eq_false ok] at h
      exact ifC (fun _ => h) fun _ => ifT (by omega) h
  · have ok : ¬ okD y m d := fun h => e ⟨h.1, h.2.1, h.2.2.1, h.2.2.2.1⟩
    rw [if_neg ok, decide_eq_false ok] at h
    rw [decide_eq_false e]
    exact ifT rfl h
theorem sday (n : Int) {K} (h : if -719162 ≤ n ∧ n ≤ 2932896 then K (yearP n) (monP n) (dayP n) true else K 0 0 0 false) : Xday_Date n K := by
  unfold Xday_Date Yday_Date
  simp only [decide_eq_true_eq, gt_iff_lt, lt]
  by_cases e : -719162 ≤ n ∧ n ≤ 2932896
  · rw [if_pos e] at h
    refine ifF (by omega) (ifF (by omega) ?_)
    rw [w64_in (n := n + 719468) (by omega) (by omega)]
    refine sdiv _ _ (by omega) (by omega) (by omega) (by omega) ?_
    have b1 : 0 ≤ (n + 719468) / 146097 ∧ (n + 719468) / 146097 ≤ 25 := by omega
    have b2 : 0 ≤ (n + 719468) % 146097 ∧ (n + 719468) % 146097 ≤ 146096 := by omega
    have hv := doy_bd (by omega : -719162 ≤ n) (by omega)
    unfold yearP monP dayP mon doy yrs era ofE at *
    generalize (n + 719468) / 146097 = q at *
    generalize (n + 719468) % 146097 = o at *
    have hg : 0 ≤ gy o ∧ gy o ≤ 146096 ∧ gy o = o - o / 1460 + o / 36524 - o / 146096 := by unfold gy; omega
    simp (disch := omega) only [w64_in, Int.tdiv_eq_ediv_of_nonneg]
    rw [← hg.2.2]
    have hY : 0 ≤ gy o / 365 ∧ gy o / 365 ≤ 400 := by omega
    have hS : st (gy o / 365) = 365 * (gy o / 365) + gy o / 365 / 4 - gy o / 365 / 100 := rfl
    rw [hS] at hv h
    generalize o - (365 * (gy o / 365) + gy o / 365 / 4 - gy o / 365 / 100) = D at *
    simp (disch := omega) only [w64_in, Int.tdiv_eq_ediv_of_nonneg]
    refine ifC (fun hm => ?_) fun hm => ?_
    · rw [if_pos (by omega), if_pos (by omega)] at h; exact h
    · rw [if_neg (by omega), if_neg (by omega)] at h; exact h
  · rw [if_neg e] at h
    exact ifC (fun _ => h) fun _ => ifT (by omega) h
theorem sruleDay (k a b c x y : Int) {K} (h : K (if (1 ≤ y ∧ y ≤ 9999) ∧ rightR k a b c x = true then ruleDay k a b c y else 0) (decide ((1 ≤ y ∧ y ≤ 9999) ∧ rightR k a b c x = true))) : Xrule_Day (k, a, b, c, x, ()) y K := by
  unfold Xrule_Day Yrule_Day
  refine snum _ _ _ (by omega) (by omega) ?_
  simp only [decide_eq_true_eq, gt_iff_lt, ge_iff_le, lt, beq_iff_eq]
  have h1 : okD y 1 1 ↔ (1 ≤ y ∧ y ≤ 9999) := by unfold okD; have := dim_jan y; omega
  by_cases ey : 1 ≤ y ∧ y ≤ 9999
  · rw [if_pos (h1.2 ey), decide_eq_true (h1.2 ey)]
    refine ifF (by simp) (sruleRight _ _ _ _ _ ?_)
    by_cases e : rightR k a b c x = true
    · rw [if_pos ⟨ey, e⟩, decide_eq_true ⟨ey, e⟩] at h
      refine ifF (by simp [e]) ?_
      obtain ⟨hx, hr⟩ := (right_iff k a b c x).1 e
      have hf := fst_bd ey.1 ey.2
      have hf2 := fst_succ y
      rw [num_first] 
      unfold ruleDay at h
      refine ifC (fun k2 => ?_) fun k2 => ?_
      · rw [if_pos k2] at h
        rw [w64_in (by omega) (by omega)]; exact h
      · rw [if_neg k2] at h
        refine ifC (fun k1 => ?_) fun k1 => ?_
        · rw [if_pos k1] at h
          refine ifC (fun ha => ?_) fun ha => sleap _ ?_
          · rw [if_pos (.inl ha)] at h
            rw [w64_in (n := fst y - 1) (by omega) (by omega), w64_in (by omega) (by omega)]; exact h
          · refine ifC (fun hl => ?_) fun hl => ?_
            · rw [if_pos (.inr (by simpa using hl))] at h
              rw [w64_in (n := fst y - 1) (by omega) (by omega), w64_in (by omega) (by omega)]; exact h
            · rw [if_neg (by rintro (h | h); exact ha h; simp [h] at hl)] at h
              rw [w64_in (by omega) (by omega)]; exact h
        · rw [if_neg k1] at h
          refine snum _ _ _ (by omega) (by omega) (slast _ _ ?_)
          have hok : okD y a 1 := ⟨ey.1, ey.2, by omega, by omega, by omega, by have := dim_bd y a; omega⟩
          have hv : Vld y a 1 := ⟨ey.1, ey.2, by omega, by omega, by omega, by have := dim_bd y a; omega⟩
          have hn := num_range hv
          rw [if_pos hok, if_pos ⟨ey.1, ey.2, by omega, by omega⟩]
          refine sweekday _ (by omega) (by omega) ?_
          have hw : 0 ≤ wk (num y a 1) ∧ wk (num y a 1) < 7 := by unfold wk; omega
          have hd := dim_bd y a
          unfold offW at h
          simp only at h
          generalize num y a 1 = n at *
          generalize wk n = w at *
          generalize dim y a = D at *
          rw [w64_in (n := b - 1) (by omega) (by omega), w64_in (n := 7 * (b - 1)) (by omega) (by omega), w64_in (n := c - w) (by omega) (by omega), w64_in (n := c - w + 7) (by omega) (by omega), Int.tmod_eq_emod_of_nonneg (by omega)]
          rw [w64_in (n := (c - w + 7) % 7 + 7 * (b - 1)) (by omega) (by omega)]
          refine ifC (fun hk => ?_) fun hk => ?_
          · rw [if_pos (by omega)] at h
            rw [w64_in (n := (c - w + 7) % 7 + 7 * (b - 1) - 7) (by omega) (by omega), w64_in (by omega) (by omega)]; exact h
          · rw [if_neg (by omega)] at h
            rw [w64_in (by omega) (by omega)]; exact h
    · rw [if_neg (fun h => e h.2), decide_eq_false (fun h => e h.2)] at h
      exact ifT (by simpa using e) h
  · rw [if_neg (fun h => ey h.1), decide_eq_false (fun h => ey h.1)] at h
    have : ¬ okD y 1 1 := fun h => ey (h1.1 h)
    rw [decide_eq_false this]
    exact ifT rfl h
/-- A rule's second of a year, from the first of 1970 on. -/
def ruleAt (k a b c x y : Int) : Int := ruleDay k a b c y * 86400 + x
theorem sruleAt (k a b c x y : Int) {K} (h : K (if (1 ≤ y ∧ y ≤ 9999) ∧ rightR k a b c x = true then ruleAt k a b c x y else 0) (decide ((1 ≤ y ∧ y ≤ 9999) ∧ rightR k a b c x = true))) : Xrule_At (k, a, b, c, x, ()) y K := by
  unfold Xrule_At Yrule_At
  refine sruleDay _ _ _ _ _ _ ?_
  simp only [decide_eq_true_eq, lt]
  by_cases e : (1 ≤ y ∧ y ≤ 9999) ∧ rightR k a b c x = true
  · rw [if_pos e, decide_eq_true e] at h ⊢
    refine ifF (by simp) ?_
    obtain ⟨hx, hr⟩ := (right_iff k a b c x).1 e.2
    have hf := fst_bd e.1.1 e.1.2
    have hf2 := fst_succ y
    have hb := ruleDay_bd e.1 e.2
    rw [w64_in (n := ruleDay k a b c y * 86400) (by omega) (by omega), w64_in (by omega) (by omega)]
    exact h
  · rw [if_neg e, decide_eq_false e] at h
    rw [decide_eq_false e]
    exact ifT rfl h
theorem sadd (a b : Int) (ha : -9223372036854775808 ≤ a ∧ a ≤ 9223372036854775807) (hb : -9223372036854775808 ≤ b ∧ b ≤ 9223372036854775807) {K}
    (h : if -9223372036854775808 ≤ a + b ∧ a + b ≤ 9223372036854775807 then K (a + b) true else K 0 false) : Xnum_Add a b K := by
  unfold Xnum_Add Ynum_Add
  simp only [lt, bne_iff_ne, ne_eq]
  by_cases e : -9223372036854775808 ≤ a + b ∧ a + b ≤ 9223372036854775807
  · rw [if_pos e] at h
    rw [w64_in e.1 e.2]
    exact ifC (fun h1 => ifC (fun h2 => absurd h1 (by simp; omega)) fun _ => h) fun _ => h
  · rw [if_neg e] at h
    have hw : w64 (a + b) = if a + b < 0 then a + b + 18446744073709551616 else a + b - 18446744073709551616 := by
      unfold w64 IntKind.wrap
      simp [IntKind.bits, IntKind.signed]
      split <;> omega
    rw [hw]
    refine ifT ?_ (ifT (by omega) h)
    split <;> simp <;> omega
end Go.Proofs.YtcopbcfekmbhlaaDoor
end
section
set_option linter.unusedVariables false
set_option linter.unusedSimpArgs false
namespace Go.Proofs.YtcopbcfekmbhlaaDoor
open Go Go.Proofs.YtcopbcfekmbhlaaDoor.Eng Go.Proofs.YtcopbcfekmbhlaaDoor.Pl
set_option linter.unusedVariables false
set_option linter.unusedSimpArgs false

abbrev tupRu (r : Ru) : Int × Int × Int × Int × Int × Unit := (r.k, r.a, r.b, r.c, r.x, ())
abbrev tupFt (f : Ft) : Int × Bool × ByteArray × Int × Bool × ByteArray × Bool × Int × Int × Int × Int × Int × Int × Int × Int × Int × Int × Unit :=
  (f.so, f.sd, S f.sa, f.wo, f.wd, S f.wa, f.has, f.fr.k, f.fr.a, f.fr.b, f.fr.c, f.fr.x, f.to.k, f.to.a, f.to.b, f.to.c, f.to.x, ())
theorem tupFt_all (a : Int × Bool × ByteArray × Int × Bool × ByteArray × Bool × Int × Int × Int × Int × Int × Int × Int × Int × Int × Int × Unit) : ∃ f, a = tupFt f := by
  obtain ⟨a1, a2, a3, a4, a5, a6, a7, a8, a9, a10, a11, a12, a13, a14, a15, a16, a17, _⟩ := a
  exact ⟨⟨a1, a2, a3.data.toList, a4, a5, a6.data.toList, a7, ⟨a8, a9, a10, a11, a12⟩, ⟨a13, a14, a15, a16, a17⟩⟩, by simp [tupFt, ← of_S]⟩
theorem skind (o : Int) (d : Bool) (l : List UInt8) (w : Bool) {K} (h : K (kindR o d l w)) : Xfoot_kind (o, d, S l, ()) w K := by
  unfold Xfoot_kind Yfoot_kind
  refine sabbr l ?_
  unfold kindR at h
  simp only [ge_iff_le, decide_eq_true_eq, beq_iff_eq]
  by_cases e1 : abbrL l = true
  · refine ifT e1 ?_
    by_cases e2 : d = w
    · refine ifT e2 ?_
      simp only [e1, e2, beq_self_eq_true, Bool.true_and] at h
      refine ifC (fun e3 => cast (congrArg K ?_) h) fun e3 => cast (congrArg K ?_) h
      · simp [e3]
      · simp [e3]
    · exact ifF e2 (cast (congrArg K (by simp [e2])) h)
  · exact ifF e1 (cast (congrArg K (by simp [e1])) h)
theorem sfootRight (f : Ft) {K} (h : K f.ok) : Xfoot_Right (tupFt f) K := by
  unfold Xfoot_Right Yfoot_Right
  refine skind _ _ _ _ ?_
  unfold Ft.ok at h
  by_cases e1 : kindR f.so f.sd f.sa false = true
  · refine ifF (by simp [e1]) ?_
    rw [e1, Bool.true_and] at h
    refine ifC (fun e2 => ?_) fun e2 => ?_
    · rw [if_pos e2] at h
      refine skind _ _ _ _ ?_
      by_cases e3 : kindR f.wo f.wd f.wa true = true
      · refine ifT e3 (sruleRight _ _ _ _ _ ?_)
        rw [e3, Bool.true_and] at h
        by_cases e4 : f.fr.ok = true
        · refine ifT e4 (sruleRight _ _ _ _ _ ?_)
          rw [e4, Bool.true_and] at h
          exact h
        · exact ifF e4 (cast (congrArg K (by simp [e4])) h)
      · exact ifF e3 (cast (congrArg K (by simp [e3])) h)
    · rw [if_neg e2] at h
      have key : ∀ z : Bool, (z = true ↔ f.bare) → K z := fun z hz => cast (congrArg K (Bool.eq_iff_iff.2 (decide_eq_true_iff.trans hz.symm))) h
      have e2' : f.has = false := by simpa using e2
      simp only [lt]
      refine key _ ?_
      unfold Ft.bare
      simp [e2', S_toList]
      constructor <;> intro hh <;> simp [hh]
  · exact ifT (by simpa using e1) (cast (congrArg K (by simp [e1])) h)
theorem splain (n : Int) {K} (h : K (decide ((97 ≤ n ∧ n ≤ 122) ∨ (65 ≤ n ∧ n ≤ 90)))) : Xfoot_plain n K := by
  unfold Xfoot_plain Yfoot_plain
  simp only [decide_eq_true_eq, ge_iff_le]
  repeat' (first | refine ifT (by omega) ?_ | refine ifF (by omega) ?_ | refine ifC (fun _ => ?_) (fun _ => ?_))
  all_goals (refine cast (congrArg K ?_) h; apply Bool.eq_iff_iff.2; simp only [decide_eq_true_eq, Bool.false_eq_true, true_iff, iff_true, iff_false]; omega)
theorem letQ (c : UInt8) : (!decide ((97 ≤ (c.toNat : Int) ∧ (c.toNat : Int) ≤ 122) ∨ (65 ≤ (c.toNat : Int) ∧ (c.toNat : Int) ≤ 90))) = !letC c := by
  unfold letC; congr 1; apply Bool.eq_iff_iff.2; simp; omega
theorem letH (c : UInt8) (hc : 128 ≤ c.toNat) : (!letC c) = true := by
  unfold letC; simp; omega
theorem snamed (l : List UInt8) (hl : l.length ≤ 1000) {K} (h : K (S (nameT l))) : Xfoot_named (S l) K := by
  unfold Xfoot_named Yfoot_named Xstrings_ContainsFunc_1 Ystrings_ContainsFunc_1 Xstrings_IndexFunc_2 Ystrings_IndexFunc_2 Xstrings_indexFunc_2
  have sn : ∀ (n : Int) {K : Bool → Prop}, K (!decide ((97 ≤ n ∧ n ≤ 122) ∨ (65 ≤ n ∧ n ≤ 90))) → Xfoot_named_1 n K := fun n K h => by
    unfold Xfoot_named_1 Yfoot_named_1; exact splain n h
  refine sIndexFunc (fun c => !letC c) (fun c K hc h => sn _ (cast (congrArg K (letQ c).symm) h)) (fun n K hn h => sn _ (cast (congrArg K ?_) h)) letH l ?_
  · symm; simp; omega
  · unfold nameT at h
    rw [nl_any] at h
    simp only [S_size, S_append, List.length_append, List.length_singleton, lt]
    by_cases e : nl (fun c => !letC c) l < l.length
    · rw [decide_eq_true e, if_pos rfl] at h
      rw [if_pos e]
      refine ifT (by simp) (ifF (by omega) (ifF (by omega) ?_))
      simpa using h
    · rw [decide_eq_false e, if_neg (by simp)] at h
      rw [if_neg e]
      exact ifF (by simp) h
theorem sname (l : List UInt8) (hl : l.length ≤ 140737488351232) {a1 a2 a3 a4 a5 a6 a7 a8 a9 a10 a11 a12 a13 a14 a15 a16 a17} {K} (h : K (S (nameP l).1) (nameP l).2.1 (S (nameP l).2.2) a1 a2 a3 a4 a5 a6 a7 a8 a9 a10 a11 a12 a13 a14 a15 a16 a17) : Xfoot_reader_name (S l) a1 a2 a3 a4 a5 a6 a7 a8 a9 a10 a11 a12 a13 a14 a15 a16 a17 K := by
  unfold Xfoot_reader_name Yfoot_reader_name
  refine sCutPrefix _ _ ?_
  unfold nameP at h
  unfold cutP
  by_cases e : l.head? = some 60
  · rw [if_pos e] at h ⊢
    refine ifT rfl (sCut _ _ (by rw [List.length_tail]; omega) ?_)
    generalize splitL 62 l.tail = p at *
    obtain ⟨p1, p2, p3⟩ := p
    simp only at h ⊢
    cases p3
    · simp only [Bool.false_and] at h
      exact ifF (by simp) h
    · simp only [Bool.true_and] at h
      exact ifT rfl (sabbr _ h)
  · rw [if_neg e] at h ⊢
    refine ifF (by simp) ?_
    unfold Xstrings_IndexFunc_1 Ystrings_IndexFunc_1 Xstrings_indexFunc_1
    have sn : ∀ (n : Int) {K : Bool → Prop}, K (!decide ((97 ≤ n ∧ n ≤ 122) ∨ (65 ≤ n ∧ n ≤ 90))) → Xfoot_reader_name_1 n K := fun n K h => by
      unfold Xfoot_reader_name_1 Yfoot_reader_name_1; exact splain n h
    refine sIndexFunc (fun c => !letC c) (fun c K hc h => sn _ (cast (congrArg K (letQ c).symm) h)) (fun n K hn h => sn _ (cast (congrArg K ?_) h)) letH l ?_
    · symm; simp; omega
    · have hn := nl_le (fun c => !letC c) l
      generalize nl (fun c => !letC c) l = k at *
      simp only [S_size, S_extract, decide_eq_true_eq, List.drop_zero, Nat.sub_zero, take_all, Int.toNat_natCast]
      by_cases e2 : k < l.length
      · rw [if_pos e2]
        simp only [Int.toNat_natCast, take_all, List.drop_zero, Nat.sub_zero]
        exact ifF (by omega) (ifT (by omega) (ifT (by omega) (ifT (by omega) (ifT (by omega) (sabbr _ h)))))
      · rw [if_neg e2]
        have : k = l.length := by omega
        subst this
        refine ifT (by omega) (ifT (by omega) (ifT (by omega) (ifT (by omega) (sabbr _ ?_))))
        exact h
theorem name_len (l : List UInt8) : (nameP l).2.2.length ≤ l.length ∧ (nameP l).1.length ≤ l.length := by
  unfold nameP splitL
  repeat' split
  all_goals simp
  all_goals omega
theorem time_bd (l : List UInt8) : -604799 ≤ (timeL l).1 ∧ (timeL l).1 ≤ 604799 ∧ (timeL l).2.1.length ≤ l.length := by
  obtain ⟨j, _, e, _, h1, h2, _⟩ := time_drop l
  rw [e, List.length_drop]; exact ⟨h1, h2, by omega⟩
theorem susual (l : List UInt8) (hl : l.length ≤ 140737488351232) {a1 a2 a3 a4 a5 a6 a7 a8 a9 a10 a11 a12 a13 a14 a15 a16 a17} {K} (h : K (usualP l).ok (S (usualP l).rest) (usualP l).o false (S (usualP l).a) a4 a5 a6 a7 a8 a9 a10 a11 a12 a13 a14 a15 a16 a17) : Xfoot_reader_usual (S l) a1 a2 a3 a4 a5 a6 a7 a8 a9 a10 a11 a12 a13 a14 a15 a16 a17 K := by
  unfold Xfoot_reader_usual Yfoot_reader_usual
  have hn := name_len l
  refine sname l hl (stime _ (by omega) ?_)
  have ht := time_bd (nameP l).2.2
  rw [w64_in (by omega) (by omega), Int.zero_sub]
  unfold usualP at h
  simp only at h
  by_cases e : (nameP l).2.1 = true
  · rw [e, Bool.true_and] at h
    exact ifT e h
  · rw [Bool.eq_false_iff.2 e, Bool.false_and] at h
    exact ifF e h
theorem ssummer (l : List UInt8) (hl : l.length ≤ 140737488351232) {a1 a2 a3 a4 a5 a6 a7 a8 a9 a10 a11 a12 a13 a14 a15 a16 a17} (ha : -604799 ≤ a1 ∧ a1 ≤ 604799) {K} (h : K (summerP a1 l).ok (S (summerP a1 l).rest) a1 a2 a3 (summerP a1 l).o true (S (summerP a1 l).a) true a8 a9 a10 a11 a12 a13 a14 a15 a16 a17) : Xfoot_reader_summer (S l) a1 a2 a3 a4 a5 a6 a7 a8 a9 a10 a11 a12 a13 a14 a15 a16 a17 K := by
  unfold Xfoot_reader_summer Yfoot_reader_summer
  have hn := name_len l
  refine sname l hl (stime _ (by omega) ?_)
  have ht := time_bd (nameP l).2.2
  rw [w64_in (n := 0 - _) (by omega) (by omega), Int.zero_sub, w64_in (by omega) (by omega)]
  unfold summerP at h
  by_cases e : (timeL (nameP l).2.2).2.2 = true
  · rw [if_pos e] at h
    exact ifT e h
  · rw [if_neg e] at h
    exact ifF e h
theorem cut_len (c : UInt8) (l : List UInt8) : (cutP c l).1.length ≤ l.length := by
  unfold cutP; split
  · rw [List.length_tail]; omega
  · exact Nat.le_refl _
theorem srule (l : List UInt8) (hl : l.length ≤ 140737488351232) {a1 a2 a3 a4 a5 a6 a7 a8 a9 a10 a11 a12 a13 a14 a15 a16 a17} {K} (h : K (ruleP l).ok (S (ruleP l).rest) a1 a2 a3 a4 a5 a6 a7 (ruleP l).r.k (ruleP l).r.a (ruleP l).r.b (ruleP l).r.c (ruleP l).r.x a13 a14 a15 a16 a17) : Xfoot_reader_rule (S l) a1 a2 a3 a4 a5 a6 a7 a8 a9 a10 a11 a12 a13 a14 a15 a16 a17 K := by
  unfold Xfoot_reader_rule Yfoot_reader_rule
  have hc := cut_len 44 l
  refine sCutPrefix _ _ (sruleParse _ (by omega) ?_)
  unfold ruleP at h
  simp only at h
  by_cases e : (parseL (cutP 44 l).1).2.2.2.2.2.2 = true
  · rw [e, Bool.true_and] at h
    exact ifT e h
  · rw [Bool.eq_false_iff.2 e, Bool.false_and] at h
    exact ifF e h
theorem srule1 (l : List UInt8) (hl : l.length ≤ 140737488351232) {a1 a2 a3 a4 a5 a6 a7 a8 a9 a10 a11 a12 a13 a14 a15 a16 a17} {K} (h : K (ruleP l).ok (S (ruleP l).rest) a1 a2 a3 a4 a5 a6 a7 a8 a9 a10 a11 a12 (ruleP l).r.k (ruleP l).r.a (ruleP l).r.b (ruleP l).r.c (ruleP l).r.x) : Xfoot_reader_rule_1 (S l) a1 a2 a3 a4 a5 a6 a7 a8 a9 a10 a11 a12 a13 a14 a15 a16 a17 K := by
  unfold Xfoot_reader_rule_1 Yfoot_reader_rule_1
  have hc := cut_len 44 l
  refine sCutPrefix _ _ (sruleParse _ (by omega) ?_)
  unfold ruleP at h
  simp only at h
  by_cases e : (parseL (cutP 44 l).1).2.2.2.2.2.2 = true
  · rw [e, Bool.true_and] at h
    exact ifT e h
  · rw [Bool.eq_false_iff.2 e, Bool.false_and] at h
    exact ifF e h
theorem rule_len (l : List UInt8) : (ruleP l).rest.length ≤ l.length := by
  have hc := cut_len 44 l
  unfold ruleP
  simp only
  cases e : (parseL (cutP 44 l).1).2.2.2.2.2.2
  · rw [parse_bad _ e]; exact hc
  · obtain ⟨_, j, _, h1, h2⟩ := parse_good _ e
    rw [h2, List.length_drop]; omega
theorem usual_len (l : List UInt8) : (usualP l).rest.length ≤ l.length ∧ -604799 ≤ (usualP l).o ∧ (usualP l).o ≤ 604799 := by
  have hn := name_len l
  have ht := time_bd (nameP l).2.2
  unfold usualP
  simp only
  omega
theorem summer_len (so : Int) (l : List UInt8) : (summerP so l).rest.length ≤ l.length := by
  have hn := name_len l
  have ht := time_bd (nameP l).2.2
  unfold summerP
  split <;> simp only <;> omega
theorem sfootParse (l : List UInt8) (hl : l.length ≤ 140737488351232) {K} (h : K (tupFt (Ft.parse l).1) (Ft.parse l).2) : Xfoot_Parse (S l) K := by
  unfold Xfoot_Parse Yfoot_Parse
  have hu := usual_len l
  have hs := summer_len (usualP l).o (usualP l).rest
  have hr := rule_len (summerP (usualP l).o (usualP l).rest).rest
  refine susual l hl ?_
  unfold Ft.parse at h
  by_cases e1 : (usualP l).ok = true
  · rw [if_pos e1] at h
    refine ifF (by simp [e1]) ?_
    simp only [S_toList]
    by_cases e2 : (usualP l).rest = []
    · rw [if_pos e2] at h
      refine ifT (by simp [e2]) (ifF (by simp [e2]) (sfootRight ⟨(usualP l).o, false, (usualP l).a, 0, false, [], false, .z, .z⟩ ?_))
      unfold Ft.chk at h
      refine ifC (fun e3 => ?_) fun e3 => ?_
      · rw [if_neg (by simpa using e3)] at h; exact h
      · rw [if_pos (by simpa using e3)] at h; exact h
    · rw [if_neg e2] at h
      refine ifF (by simp [e2]) (ssummer _ (by omega) (by omega) ?_)
      by_cases e3 : (summerP (usualP l).o (usualP l).rest).ok = true
      · rw [if_pos e3] at h
        refine ifF (by simp [e3]) ?_
        unfold Xfoot_reader_from Yfoot_reader_from
        refine srule _ (by omega) ?_
        by_cases e4 : (ruleP (summerP (usualP l).o (usualP l).rest).rest).ok = true
        · rw [if_pos e4] at h
          refine ifF (by simp [e4]) ?_
          unfold Xfoot_reader_to Yfoot_reader_to
          refine srule1 _ (by omega) ?_
          by_cases e5 : (ruleP (ruleP (summerP (usualP l).o (usualP l).rest).rest).rest).ok = true
          · rw [if_pos e5] at h
            refine ifF (by simp [e5]) ?_
            simp only [S_toList]
            by_cases e6 : (ruleP (ruleP (summerP (usualP l).o (usualP l).rest).rest).rest).rest = []
            · rw [if_pos e6] at h
              refine ifF (by simp [e6]) (sfootRight ⟨(usualP l).o, false, (usualP l).a, (summerP (usualP l).o (usualP l).rest).o, true, (summerP (usualP l).o (usualP l).rest).a, true, (ruleP (summerP (usualP l).o (usualP l).rest).rest).r, (ruleP (ruleP (summerP (usualP l).o (usualP l).rest).rest).rest).r⟩ ?_)
              unfold Ft.chk at h
              refine ifC (fun e3 => ?_) fun e3 => ?_
              · rw [if_neg (by simpa using e3)] at h; exact h
              · rw [if_pos (by simpa using e3)] at h; exact h
            · rw [if_neg e6] at h
              exact ifT (by simp [e6]) h
          · rw [if_neg e5] at h
            exact ifT (by simpa using e5) h
        · rw [if_neg e4] at h
          exact ifT (by simpa using e4) h
      · rw [if_neg e3] at h
        exact ifT (by simpa using e3) h
  · rw [if_neg e1] at h
    exact ifT (by simpa using e1) h
end Go.Proofs.YtcopbcfekmbhlaaDoor
end
section
set_option linter.unusedVariables false
set_option linter.unusedSimpArgs false
namespace Go.Proofs.YtcopbcfekmbhlaaDoor
open Go Go.Proofs.YtcopbcfekmbhlaaDoor.Eng Go.Proofs.YtcopbcfekmbhlaaDoor.Pl
set_option linter.unusedVariables false
set_option linter.unusedSimpArgs false

theorem kind_iff {o : Int} {d : Bool} {l : List UInt8} {w : Bool} : kindR o d l w = true ↔ abbrL l = true ∧ d = w ∧ -89999 ≤ o ∧ o ≤ 89999 := by
  unfold kindR; simp [and_assoc]
theorem abbr_len {l : List UInt8} (h : abbrL l = true) : 3 ≤ l.length ∧ l.length ≤ 16 := by
  unfold abbrL at h; simp at h; omega
theorem nameT_len {l : List UInt8} : (nameT l).length ≤ l.length + 2 := by
  unfold nameT; split
  · simp
  · omega
theorem sfootText (f : Ft) {K} (h : K (S f.text.1) f.text.2) : Xfoot_Text (tupFt f) K := by
  unfold Xfoot_Text Yfoot_Text
  refine sfootRight f ?_
  unfold Ft.text at h
  by_cases e : f.ok = true
  · rw [if_pos e] at h
    refine ifF (by simp [e]) ?_
    unfold Ft.ok at e
    rw [Bool.and_eq_true] at e
    obtain ⟨e1, e2⟩ := e
    obtain ⟨k1, k2, k3, k4⟩ := kind_iff.1 e1
    have l1 := abbr_len k1
    have l2 := clockL_len (-f.so)
    have l3 := nameT_len (l := f.sa)
    simp only [Int.zero_sub]
    rw [w64_in (n := -f.so) (by omega) (by omega)]
    refine sclock _ (snamed _ (by omega) ?_)
    unfold Ft.txt at h
    simp only [S_size, S_append, List.length_append, lt]
    refine ifF (by omega) ?_
    by_cases eh : f.has = true
    · rw [if_pos eh] at h e2
      rw [Bool.and_eq_true, Bool.and_eq_true] at e2
      obtain ⟨⟨e2, e3⟩, e4⟩ := e2
      obtain ⟨j1, j2, j3, j4⟩ := kind_iff.1 e2
      have m1 := abbr_len j1
      have m2 := clockL_len (-f.wo)
      have m3 := nameT_len (l := f.wa)
      have m4 := textL_len f.fr.k f.fr.a f.fr.b f.fr.c f.fr.x
      have m5 := textL_len f.to.k f.to.a f.to.b f.to.c f.to.x
      refine ifF (by simp [eh]) (snamed _ (by omega) ?_)
      simp only [S_size, S_append, List.length_append, lt, bne_iff_ne, ne_eq, List.length_singleton]
      refine ifF (by omega) ?_
      rw [w64_in (n := f.wo - f.so) (by omega) (by omega), w64_in (n := -f.wo) (by omega) (by omega)]
      unfold Ru.txt at h
      by_cases es : f.wo - f.so = 3600
      · rw [if_neg (fun h => h es)] at h
        refine ifF (fun h => h es) (sruleText _ _ _ _ _ (sruleText _ _ _ _ _ ?_))
        simp only [S_size, S_append, List.length_append, lt, List.length_singleton]
        refine ifF (by omega) (ifF (by omega) (ifF (by omega) (ifF (by omega) ?_)))
        simpa [List.append_assoc] using h
      · rw [if_pos es] at h
        refine ifT es (sclock _ ?_)
        simp only [S_size, S_append, List.length_append, lt, List.length_singleton]
        refine ifF (by omega) (sruleText _ _ _ _ _ (sruleText _ _ _ _ _ ?_))
        simp only [S_size, S_append, List.length_append, lt, List.length_singleton]
        refine ifF (by omega) (ifF (by omega) (ifF (by omega) (ifF (by omega) ?_)))
        simpa [List.append_assoc] using h
    · rw [if_neg eh] at h
      refine ifT (by simpa using eh) ?_
      simpa using h
  · rw [if_neg e] at h
    exact ifT (by simpa using e) h
theorem sruleAtR (r : Ru) (y : Int) {K} (h : if (1 ≤ y ∧ y ≤ 9999) ∧ r.ok = true then K (r.at y) true else K 0 false) : Xrule_At (tupRu r) y K := by
  refine sruleAt _ _ _ _ _ _ ?_
  by_cases e : (1 ≤ y ∧ y ≤ 9999) ∧ rightR r.k r.a r.b r.c r.x = true
  · have e' : (1 ≤ y ∧ y ≤ 9999) ∧ r.ok = true := e
    rw [if_pos e'] at h
    rw [if_pos e, decide_eq_true e]; exact h
  · have e' : ¬ ((1 ≤ y ∧ y ≤ 9999) ∧ r.ok = true) := e
    rw [if_neg e'] at h
    rw [if_neg e, decide_eq_false e]; exact h
theorem sfootSpan (f : Ft) (y : Int) {K} (h : if f.spans y then K (f.from' y) (f.to' y) true else K 0 0 false) : Xfoot_Span (tupFt f) y K := by
  unfold Xfoot_Span Yfoot_Span
  by_cases eh : f.has = true
  · refine ifF (by simp [eh]) (sfootRight f ?_)
    by_cases e : f.ok = true
    · refine ifF (by simp [e]) (sruleAtR f.fr y ?_)
      have e' := e
      unfold Ft.ok at e'
      rw [if_pos eh, Bool.and_eq_true, Bool.and_eq_true, Bool.and_eq_true] at e'
      obtain ⟨e0, ⟨e1, e2⟩, e3⟩ := e'
      obtain ⟨k1, k2, k3, k4⟩ := kind_iff.1 e0
      obtain ⟨j1, j2, j3, j4⟩ := kind_iff.1 e1
      have r1 := (right_iff _ _ _ _ _).1 e2
      have r2 := (right_iff _ _ _ _ _).1 e3
      by_cases ey : 1 ≤ y ∧ y ≤ 9999
      · have hsp : f.spans y := ⟨eh, e, ey.1, ey.2⟩
        rw [if_pos hsp] at h
        have d1 := ruleDay_bd ey e2
        have d2 := ruleDay_bd ey e3
        have hf := fst_bd ey.1 ey.2
        have hf2 := fst_succ y
        refine ifT ⟨ey, e2⟩ (ifF (by simp) (sruleAtR f.to y (ifT ⟨ey, e3⟩ ?_)))
        unfold Ft.from' Ft.to' at h
        show K (w64 (f.fr.at y - f.so)) (w64 (f.to.at y - f.wo)) true
        unfold Ru.at at h ⊢
        rw [w64_in (by omega) (by omega), w64_in (by omega) (by omega)]
        exact h
      · rw [if_neg (fun h => ey ⟨h.2.2.1, h.2.2.2⟩)] at h
        exact ifF (fun h => ey h.1) (ifT rfl h)
    · rw [if_neg (fun h => e h.2.1)] at h
      exact ifT (by simpa using e) h
  · rw [if_neg (fun h => eh h.1)] at h
    exact ifT (by simpa using eh) h
theorem syear (n : Int) (h0 : -9223372036854775808 ≤ n) (h1 : n ≤ 9223372036854775807) {K} (h : if inDays n then K (yearP (n / 86400)) true else K 0 false) : Xfoot_year n K := by
  rw [Xfoot_year, Yfoot_year]
  refine sdiv _ _ h0 h1 (by omega) (by omega) (sday _ ?_)
  by_cases e : inDays n
  · rw [if_pos e] at h
    exact ifT e h
  · rw [if_neg e] at h
    exact ifF e h
theorem sfootLookup (f : Ft) (p : Int) (hp : -9223372036854775808 ≤ p ∧ p ≤ 9223372036854775807) (ho : -9223372036854775808 ≤ f.so ∧ f.so ≤ 9223372036854775807) {K} (h : if f.sum p then K (f.wo, f.wd, S f.wa, ()) else K (f.so, f.sd, S f.sa, ())) : Xfoot_Lookup (tupFt f) p K := by
  unfold Xfoot_Lookup Yfoot_Lookup
  refine sadd _ _ hp ho ?_
  have std : ¬ f.sum p → K (f.so, f.sd, S f.sa, ()) := fun hn => by rw [if_neg hn] at h; exact h
  have dst : f.sum p → K (f.wo, f.wd, S f.wa, ()) := fun hn => by rw [if_pos hn] at h; exact h
  by_cases e : -9223372036854775808 ≤ p + f.so ∧ p + f.so ≤ 9223372036854775807
  · refine ifT e (syear _ e.1 e.2 ?_)
    by_cases ed : inDays (p + f.so)
    · refine ifT ed (sfootSpan f _ ?_)
      by_cases es : f.spans (yearP ((p + f.so) / 86400))
      · refine ifT es (ifF (by simp) (ifF (by simp) (ifF (by simp) ?_)))
        have hs : f.sum p ↔ ((f.from' (yearP ((p + f.so) / 86400)) ≤ p ∧ p < f.to' (yearP ((p + f.so) / 86400))) ∨ (f.to' (yearP ((p + f.so) / 86400)) ≤ f.from' (yearP ((p + f.so) / 86400)) ∧ (f.from' (yearP ((p + f.so) / 86400)) ≤ p ∨ p < f.to' (yearP ((p + f.so) / 86400))))) :=
          ⟨fun h => h.2.2, fun h => ⟨ed, es, h⟩⟩
        simp only [decide_eq_true_eq, ge_iff_le]
        generalize f.from' (yearP ((p + f.so) / 86400)) = a at *
        generalize f.to' (yearP ((p + f.so) / 86400)) = b at *
        refine ifC (fun h1 => ifC (fun h2 => dst (hs.2 (by omega))) fun h2 => ifC (fun h3 => ifC (fun h4 => dst (hs.2 (by omega))) fun h4 => absurd h1 h4) fun h3 => std (fun h => by have := hs.1 h; omega))
          fun h1 => ifC (fun h3 => ifC (fun h4 => absurd h4 h1) fun h4 => ifC (fun h5 => dst (hs.2 (by omega))) fun h5 => std (fun h => by have := hs.1 h; omega)) fun h3 => std (fun h => by have := hs.1 h; omega)
      · exact ifF es (ifF (by simp) (ifF (by simp) (ifT (by simp) (std fun h => es h.2.1))))
    · refine ifF ed (sfootSpan f _ ?_)
      have : ¬ f.spans 0 := fun h => by have := h.2.2.1; omega
      exact ifF this (ifF (by simp) (ifT (by simp) (std fun h => ed h.1)))
  · refine ifF e (syear 0 (by omega) (by omega) ?_)
    have h0 : inDays 0 := by unfold inDays; omega
    refine ifT h0 (sfootSpan f _ ?_)
    have out : ¬ f.sum p := fun h => e (by have := h.1; unfold inDays at this; omega)
    refine ifC (fun _ => ifT (by simp) (std out)) fun _ => ifT (by simp) (std out)
set_option maxRecDepth 100000 in
theorem ssmall {K} (h : K true) : Xepactlaw18_small K := by
  rw [Xepactlaw18_small, Yepactlaw18_small]
  refine sfootParse [69, 83, 84, 53, 69, 68, 84, 44, 77, 51, 46, 50, 46, 48, 44, 77, 49, 49, 46, 49, 46, 48] (by simp) ?_
  refine sfootText ⟨-18000, false, [69, 83, 84], -14400, true, [69, 68, 84], true, ⟨0, 3, 2, 0, 7200⟩, ⟨0, 11, 1, 0, 7200⟩⟩ ?_
  refine sfootParse [60, 43, 48, 53, 51, 48, 62, 45, 53, 58, 51, 48] (by simp) ?_
  refine sfootParse [69, 83, 84, 53, 69, 68, 84] (by simp) ?_
  refine sfootParse [69, 83, 84] (by simp) ?_
  refine sfootParse [69, 83, 84, 50, 53] (by simp) ?_
  refine sfootParse [60, 45, 48, 51, 62, 51, 60, 45, 48, 50, 62, 44, 77, 51, 46, 53, 46, 48, 47, 45, 50, 44, 77, 49, 48, 46, 53, 46, 48, 47, 45, 49] (by simp) ?_
  refine sfootSpan ⟨-18000, false, [69, 83, 84], -14400, true, [69, 68, 84], true, ⟨0, 3, 2, 0, 7200⟩, ⟨0, 11, 1, 0, 7200⟩⟩ 2024 (ifT (by decide +kernel) ?_)
  have lk : ∀ (f : Ft) (p : Int) {K}, (-9223372036854775808 ≤ p ∧ p ≤ 9223372036854775807) → (-9223372036854775808 ≤ f.so ∧ f.so ≤ 9223372036854775807) → (if f.sum p then K (f.wo, f.wd, S f.wa, ()) else K (f.so, f.sd, S f.sa, ())) → Xfoot_Lookup (tupFt f) p K := fun f p K h1 h2 h3 => sfootLookup f p h1 h2 h3
  simp only [S_toList, lt]
  have g1 : ∀ {p : Int} {K}, (-9223372036854775808 ≤ p ∧ p ≤ 9223372036854775807) → K (-18000, false, S [69, 83, 84], ()) → decide (Ft.sum ⟨-18000, false, [69, 83, 84], -14400, true, [69, 68, 84], true, ⟨0, 3, 2, 0, 7200⟩, ⟨0, 11, 1, 0, 7200⟩⟩ p) = false →
      Xfoot_Lookup (tupFt ⟨-18000, false, [69, 83, 84], -14400, true, [69, 68, 84], true, ⟨0, 3, 2, 0, 7200⟩, ⟨0, 11, 1, 0, 7200⟩⟩) p K := fun hp hK hd => sfootLookup _ _ hp (by decide) (ifF (of_decide_eq_false hd) hK)
  have g2 : ∀ {p : Int} {K}, (-9223372036854775808 ≤ p ∧ p ≤ 9223372036854775807) → K (-14400, true, S [69, 68, 84], ()) → decide (Ft.sum ⟨-18000, false, [69, 83, 84], -14400, true, [69, 68, 84], true, ⟨0, 3, 2, 0, 7200⟩, ⟨0, 11, 1, 0, 7200⟩⟩ p) = true →
      Xfoot_Lookup (tupFt ⟨-18000, false, [69, 83, 84], -14400, true, [69, 68, 84], true, ⟨0, 3, 2, 0, 7200⟩, ⟨0, 11, 1, 0, 7200⟩⟩) p K := fun hp hK hd => sfootLookup _ _ hp (by decide) (ifT (of_decide_eq_true hd) hK)
  have g3 : ∀ {p : Int} {K}, (-9223372036854775808 ≤ p ∧ p ≤ 9223372036854775807) → K (-14400, true, S [69, 68, 84], ()) → decide (Ft.sum ⟨-18000, false, [69, 83, 84], -14400, true, [69, 68, 84], true, ⟨0, 11, 1, 0, 7200⟩, ⟨0, 3, 2, 0, 7200⟩⟩ p) = true →
      Xfoot_Lookup (tupFt ⟨-18000, false, [69, 83, 84], -14400, true, [69, 68, 84], true, ⟨0, 11, 1, 0, 7200⟩, ⟨0, 3, 2, 0, 7200⟩⟩) p K := fun hp hK hd => sfootLookup _ _ hp (by decide) (ifT (of_decide_eq_true hd) hK)
  obtain ⟨f, hf⟩ : ∃ f, f = (Ft.parse [60, 43, 48, 53, 51, 48, 62, 45, 53, 58, 51, 48]).1 := ⟨_, rfl⟩
  have g4 : ∀ {K}, K (f.so, f.sd, S f.sa, ()) → Xfoot_Lookup (tupFt f) 5 K := fun hK => by
    have h1 : decide (-9223372036854775808 ≤ f.so ∧ f.so ≤ 9223372036854775807) = true := by rw [hf]; kernel_rfl
    have h2 : decide (f.sum 5) = false := by rw [hf]; kernel_rfl
    exact sfootLookup f _ (by decide) (of_decide_eq_true h1) (ifF (of_decide_eq_false h2) hK)
  iterate 15
    first
    | refine ifT trivial ?_
    | refine ifT (by kernel_rfl) ?_
  refine g1 (p := 1710053999) (by decide) ?_ (by kernel_rfl)
  refine ifT (by rw [S_toList]; kernel_rfl) ?_
  refine g2 (p := 1710054000) (by decide) ?_ (by kernel_rfl)
  refine ifT (by rw [S_toList]; kernel_rfl) ?_
  refine g2 (p := 1730613599) (by decide) ?_ (by kernel_rfl)
  refine ifT (by rw [S_toList]; kernel_rfl) ?_
  refine g1 (p := 1730613600) (by decide) ?_ (by kernel_rfl)
  refine ifT (by rw [S_toList]; kernel_rfl) ?_
  refine g3 (p := 1704085200) (by decide) ?_ (by kernel_rfl)
  refine ifT (by rw [S_toList]; kernel_rfl) ?_
  rw [← hf]
  refine g4 ?_
  refine ifT (by simp) ?_
  refine sfootRight ⟨-18000, false, [69, 83, 84], -14400, true, [69, 68, 84], true, ⟨0, 3, 2, 0, 7200⟩, ⟨0, 11, 1, 0, 7200⟩⟩ (ifT (by kernel_rfl) ?_)
  refine sfootRight .z ?_
  have hz : (!Ft.z.ok) = true := by kernel_rfl
  rw [hz]; exact h
end Go.Proofs.YtcopbcfekmbhlaaDoor
end
section
set_option linter.unusedVariables false
set_option linter.unusedSimpArgs false
namespace Go.Proofs.YtcopbcfekmbhlaaDoor
open Go Go.Proofs.YtcopbcfekmbhlaaDoor.Eng Go.Proofs.YtcopbcfekmbhlaaDoor.Pl
set_option linter.unusedVariables false
set_option linter.unusedSimpArgs false

theorem forFt {Q : Int × Bool × ByteArray × Int × Bool × ByteArray × Bool × Int × Int × Int × Int × Int × Int × Int × Int × Int × Int × Unit → Prop} (h : ∀ f, Q (tupFt f)) (a) : Q a := by
  obtain ⟨f, rfl⟩ := tupFt_all a
  exact h f
def i64 (n : Int) : Prop := -9223372036854775808 ≤ n ∧ n ≤ 9223372036854775807
theorem wf64 {n : Int} (h : (Lit.int .i64 n).wf = true) : i64 n := by
  simp [Lit.wf, IntKind.min, IntKind.max, IntKind.bits, IntKind.signed] at h
  unfold i64; omega
theorem toB {b : Bool} {K : Bool → Prop} (h : K true) (hb : b = true) : K b := by rw [hb]; exact h
theorem ok_so {f : Ft} (h : f.ok = true) : -89999 ≤ f.so ∧ f.so ≤ 89999 ∧ f.sd = false ∧ abbrL f.sa = true := by
  unfold Ft.ok at h
  rw [Bool.and_eq_true] at h
  obtain ⟨k1, k2, k3, k4⟩ := kind_all.1 h.1
  exact ⟨k3, k4, k2, k1⟩
theorem ok_bare {f : Ft} (h : f.ok = true) : (⟨f.so, f.sd, f.sa, 0, false, [], false, .z, .z⟩ : Ft).ok = true := by
  unfold Ft.ok at *
  rw [Bool.and_eq_true] at h
  simp only [h.1, Bool.true_and]
  rfl
theorem sLook (f : Ft) (p : Int) (hp : i64 p) (ho : i64 f.so) {K} (h : ∀ r, (f.sum p ∧ r = (f.wo, f.wd, S f.wa, ())) ∨ (¬ f.sum p ∧ r = (f.so, f.sd, S f.sa, ())) → K r) : Xfoot_Lookup (tupFt f) p K :=
  sfootLookup f p hp ho (ifC (fun e => h _ (.inl ⟨e, rfl⟩)) fun e => h _ (.inr ⟨e, rfl⟩))
theorem sSpan (f : Ft) (y : Int) {K} (h : ∀ a b ok, (f.spans y ∧ a = f.from' y ∧ b = f.to' y ∧ ok = true) ∨ (¬ f.spans y ∧ a = 0 ∧ b = 0 ∧ ok = false) → K a b ok) : Xfoot_Span (tupFt f) y K :=
  sfootSpan f y (ifC (fun e => h _ _ _ (.inl ⟨e, rfl, rfl, rfl⟩)) fun e => h _ _ _ (.inr ⟨e, rfl, rfl, rfl⟩))
theorem sDate (n : Int) {K} (h : ∀ y m d ok, ((-719162 ≤ n ∧ n ≤ 2932896) ∧ y = yearP n ∧ m = monP n ∧ d = dayP n ∧ ok = true) ∨ (¬ (-719162 ≤ n ∧ n ≤ 2932896) ∧ y = 0 ∧ m = 0 ∧ d = 0 ∧ ok = false) → K y m d ok) : Xday_Date n K :=
  sday n (ifC (fun e => h _ _ _ _ (.inl ⟨e, rfl, rfl, rfl, rfl⟩)) fun e => h _ _ _ _ (.inr ⟨e, rfl, rfl, rfl, rfl⟩))
theorem toList_iff {a b : ByteArray} : a.toList = b.toList ↔ a = b := by
  constructor
  · intro h
    rw [of_S a, of_S b] at h ⊢
    rw [S_toList, S_toList] at h
    rw [h]
  · intro h; rw [h]
theorem eq_ty (r : Int × Bool × ByteArray × Unit) (o : Int) (d : Bool) (s : ByteArray) : ((r.1 == o && (r.2.1 == d && (r.2.2.1.toList == s.toList && true))) = true) = (r = (o, d, s, ())) := by
  obtain ⟨a, b, c, _⟩ := r
  simp [toList_iff]
theorem eq_ty' (r q : Int × Bool × ByteArray × Unit) : ((r.1 == q.1 && (r.2.1 == q.2.1 && (r.2.2.1.toList == q.2.2.1.toList && true))) = true) = (r = q) := by
  obtain ⟨a, b, c, _⟩ := q
  exact eq_ty r a b c
theorem not_true (b : Bool) : ((!b) = true) = ¬ (b = true) := by cases b <;> simp
set_option maxRecDepth 100000 in
theorem lFootPlain (f : Ft) (p : Int) (hp : i64 p) {K} (h : K true) : Xepactlaw18_FootPlain (tupFt f) p K := by
  rw [Xepactlaw18_FootPlain, Yepactlaw18_FootPlain]
  refine ssmall (ifC (fun _ => h) fun _ => ifC (fun _ => h) fun _ => sfootRight f (ifC (fun _ => h) fun hr => ?_))
  have hr : f.ok = true := by simpa using hr
  have ho := ok_so hr
  refine sLook f p hp ⟨by omega, by omega⟩ fun r4 h4 => ?_
  refine ifT rfl (sfootRight ⟨f.so, f.sd, f.sa, 0, false, [], false, .z, .z⟩ (ifT (ok_bare hr) (sfootLookup ⟨f.so, f.sd, f.sa, 0, false, [], false, .z, .z⟩ p hp ⟨by simp only; omega, by simp only; omega⟩ ?_)))
  refine ifF (fun h => by have := h.2.1.1; cases this) (ifT (by simp) ?_)
  rcases h4 with ⟨hs, rfl⟩ | ⟨_, rfl⟩
  · exact ifC (fun _ => h) fun _ => ifT hs.2.1.1 (toB h (by simp))
  · exact ifT (by simp) h
set_option maxRecDepth 100000 in
theorem lFootHolds (f : Ft) (p : Int) (hp : i64 p) {K} (h : K true) : Xepactlaw18_FootHolds (tupFt f) p K := by
  rw [Xepactlaw18_FootHolds, Yepactlaw18_FootHolds]
  refine ssmall (ifC (fun _ => h) fun _ => ifC (fun _ => h) fun _ => sfootRight f (ifC (fun _ => h) fun hr => ifC (fun _ => h) fun hp1 => ifC (fun _ => h) fun hp2 => ?_))
  have hr : f.ok = true := by simpa using hr
  have ho := ok_so hr
  simp only [decide_eq_true_eq, gt_iff_lt] at hp1 hp2
  refine sLook f p hp ⟨by omega, by omega⟩ fun r4 h4 => ?_
  rw [w64_in (n := p + 1) (by omega) (by omega)]
  refine sLook f (p + 1) ⟨by omega, by omega⟩ ⟨by omega, by omega⟩ fun r5 h5 => ?_
  simp only [lt, eq_ty, eq_ty', not_true, beq_iff_eq]
  have hne : r4 ≠ r5 → f.has = true ∧ ¬ (f.sum p ↔ f.sum (p + 1)) := by
    intro hne
    rcases h4 with ⟨s4, rfl⟩ | ⟨s4, rfl⟩ <;> rcases h5 with ⟨s5, rfl⟩ | ⟨s5, rfl⟩
    · exact absurd rfl hne
    · exact ⟨s4.2.1.1, fun h => s5 (h.1 s4)⟩
    · exact ⟨s5.2.1.1, fun h => s4 (h.2 s5)⟩
    · exact absurd rfl hne
  have hstd : r4 = (f.so, f.sd, S f.sa, ()) ∨ (f.has = true ∧ r4 = (f.wo, f.wd, S f.wa, ())) := by
    rcases h4 with ⟨s4, rfl⟩ | ⟨s4, rfl⟩
    · exact .inr ⟨s4.2.1.1, rfl⟩
    · exact .inl rfl
  refine ifC (fun e1 => ifC (fun e2 => ?_) fun e2 => ifC (fun e3 => ?_) fun e3 => ifC (fun e4 => h) fun e4 => ?_) (fun e1 => ifC (fun e4 => h) fun e4 => ?_)
  · rcases hstd with h | ⟨_, h⟩
    · exact absurd h e1
    · exact absurd h e2
  · rcases hstd with h | ⟨h, _⟩
    · exact absurd h e1
    · exact absurd h e3
  all_goals
    obtain ⟨hh, hs⟩ := hne e4
    have ht := sum_turns hs
    rw [w64_in (n := p + 1 + f.so) (by omega) (by omega)]
    refine sdiv _ _ (by omega) (by omega) (by omega) (by omega) (sDate _ fun y m d ok hd => sSpan f y fun a b is hsp => ?_)
    rw [w64_in (n := 86400 * ((p + 1 + f.so) / 86400)) (by omega) (by omega)]
    unfold inDays at ht
    rcases ht with ⟨t1, t2, t3⟩ | ⟨t1, t2, t3, t4⟩ | ⟨t1, t2⟩
    · rcases hd with ⟨_, rfl, rfl, rfl, rfl⟩ | ⟨d1, _⟩
      · rcases hsp with ⟨_, rfl, rfl, rfl⟩ | ⟨s1, _⟩
        · repeat' (first | exact h | refine ifT trivial ?_ | refine ifT hh ?_ | refine ifT rfl ?_ | refine ifC (fun _ => ?_) (fun _ => ?_))
          all_goals (exfalso; omega)
        · exact absurd t2 s1
      · exact absurd t1 d1
    · rcases hd with ⟨_, rfl, rfl, rfl, rfl⟩ | ⟨d1, _⟩
      · refine ifT t2 (ifT t3 ?_)
        repeat' (first | exact h | refine ifT trivial ?_ | refine ifT t4 ?_ | refine ifT hh ?_ | refine ifT rfl ?_ | refine ifC (fun _ => ?_) (fun _ => ?_))
      · exact absurd t1 d1
    · rcases hd with ⟨d1, _⟩ | ⟨_, rfl, rfl, rfl, rfl⟩
      · exact absurd d1 t1
      · repeat' (first | exact h | refine ifT trivial ?_ | exact toB h (by simpa using t2) | refine ifT hh ?_ | refine ifT rfl ?_ | refine ifT (show ¬ (false = true) by decide) ?_ | refine ifF (show ¬ (false = true) by decide) ?_ | refine ifC (fun _ => ?_) (fun _ => ?_))
set_option maxRecDepth 100000 in
theorem lFootSpans (f : Ft) (y n : Int) (hy : i64 y) (hn : i64 n) {K} (h : K true) : Xepactlaw18_FootSpans (tupFt f) y n K := by
  rw [Xepactlaw18_FootSpans, Yepactlaw18_FootSpans]
  refine ssmall (ifC (fun _ => h) fun _ => ifC (fun _ => h) fun _ => sfootRight f (ifC (fun _ => h) fun hr => ifC (fun _ => h) fun hp1 => ifC (fun _ => h) fun hp2 => ?_))
  have hr : f.ok = true := by simpa using hr
  have ho := ok_so hr
  simp only [decide_eq_true_eq, ge_iff_le] at hp1 hp2
  refine sSpan f y fun a b ok hsp => snum _ _ _ (by omega) (by omega) ?_
  have h1 : okD y 1 1 ↔ (1 ≤ y ∧ y ≤ 9999) := by unfold okD; have := dim_jan y; omega
  simp only [lt, eq_ty, eq_ty', not_true, beq_iff_eq, decide_eq_true_eq]
  rcases hsp with ⟨s, rfl, rfl, rfl⟩ | ⟨s, rfl, rfl, rfl⟩
  · have hy1 := s.2.2.1
    have hy2 := s.2.2.2
    have hf := fst_bd hy1 hy2
    have hf2 := fst_le (y := y) (z := y + 1) (by omega)
    rw [if_pos (h1.2 ⟨hy1, hy2⟩), num_first]
    rw [w64_in (n := 86400 * fst y) (by omega) (by omega), w64_in (n := 86400 * fst y - f.so) (by omega) (by omega), w64_in (n := 86400 * fst y - f.so + n) (by omega) (by omega)]
    have hs := sum_year s (n := n) (by omega) (by omega)
    refine ifF (by simp) ?_
    have hd : decide (okD y 1 1) = true := decide_eq_true (h1.2 ⟨hy1, hy2⟩)
    repeat' (first | exact h | refine ifT trivial ?_ | refine ifT rfl ?_ | refine ifT (h1.2 ⟨hy1, hy2⟩) ?_ | (refine sLook f _ ⟨by omega, by omega⟩ ⟨by omega, by omega⟩ fun r hr' => ?_) | refine ifC (fun _ => ?_) (fun _ => ?_))
    all_goals (rcases hr' with ⟨h', rfl⟩ | ⟨h', rfl⟩ <;> first | contradiction | (exfalso; rw [hs] at h'; omega) | (refine toB h ?_; simp))
  · refine ifT (by simp) (ifT trivial (ifT rfl (ifT rfl (ifC (fun _ => h) fun e => toB h ?_))))
    have : ¬ okD y 1 1 := fun hd => s ⟨by simpa using e, hr, (h1.1 hd).1, (h1.1 hd).2⟩
    simp [this]
end Go.Proofs.YtcopbcfekmbhlaaDoor
end
section
set_option linter.unusedVariables false
set_option linter.unusedSimpArgs false
namespace Go.Proofs.YtcopbcfekmbhlaaDoor
open Go Go.Proofs.YtcopbcfekmbhlaaDoor.Eng Go.Proofs.YtcopbcfekmbhlaaDoor.Pl
set_option linter.unusedVariables false
set_option linter.unusedSimpArgs false

theorem txt_len {f : Ft} (h : f.ok = true) : f.txt.length ≤ 2000 := by
  unfold Ft.ok at h
  rw [Bool.and_eq_true] at h
  obtain ⟨e1, e2⟩ := h
  have l1 := abbr_len (kind_iff.1 e1).1
  have l2 := clockL_len (-f.so)
  have l3 := nameT_len (l := f.sa)
  unfold Ft.txt
  by_cases eh : f.has = true
  · rw [if_pos eh] at e2 ⊢
    rw [Bool.and_eq_true, Bool.and_eq_true] at e2
    have m1 := abbr_len (kind_iff.1 e2.1.1).1
    have m2 := clockL_len (-f.wo)
    have m3 := nameT_len (l := f.wa)
    have m4 := textL_len f.fr.k f.fr.a f.fr.b f.fr.c f.fr.x
    have m5 := textL_len f.to.k f.to.a f.to.b f.to.c f.to.x
    unfold Ru.txt
    simp only [List.length_append, List.length_cons]
    split
    · omega
    · simp only [List.length_nil]; omega
  · rw [if_neg eh]
    simp only [List.length_append, List.length_nil]
    omega
set_option maxRecDepth 100000 in
theorem lFootBack (f : Ft) (s : List UInt8) {K} (h : K true) : Xepactlaw18_FootBack (tupFt f) (S s) K := by
  rw [Xepactlaw18_FootBack, Yepactlaw18_FootBack]
  refine ssmall (ifC (fun _ => h) fun hs => ifC (fun _ => h) fun _ => ifC (fun _ => h) fun _ => sfootText f (sfootRight f ?_))
  have hs : s.length ≤ 200 := by rw [S_size] at hs; simp at hs; omega
  have z0 : tupFt Ft.z = ((0 : Int), false, S [], (0 : Int), false, S [], false, (0 : Int), (0 : Int), (0 : Int), (0 : Int), (0 : Int), (0 : Int), (0 : Int), (0 : Int), (0 : Int), (0 : Int), ()) := rfl
  by_cases hr : f.ok = true
  · have e : f.text = (f.txt, true) := by unfold Ft.text; rw [if_pos hr]
    rw [e, hr]
    refine ifF (by simp) (ifF (by simp) (ifT rfl (sfootParse f.txt (by have := txt_len hr; omega) ?_)))
    rw [parse_foot f hr]
    simp only [lt]
    refine ifF (by simp) (ifF (by simp) (sfootParse s (by omega) ?_))
    cases hp : (Ft.parse s).2
    · rw [parse_no s hp]
      exact ifT rfl (ifT trivial (toB h (by simp [Ft.z, Ru.z])))
    · have hg := parse_ok s hp
      have eg : (Ft.parse s).1.text = ((Ft.parse s).1.txt, true) := by unfold Ft.text; rw [if_pos hg]
      refine ifF (by simp) (sfootText _ ?_)
      rw [eg]
      refine sfootParse (Ft.parse s).1.txt (by have := txt_len hg; omega) ?_
      rw [parse_foot _ hg]
      refine ifT trivial (sfootRight _ (ifT hg (ifT rfl (ifT rfl (toB h (by simp))))))
  · have e : f.text = ([], false) := by unfold Ft.text; rw [if_neg hr]
    have hr' : f.ok = false := by simpa using hr
    rw [e, hr']
    simp only [lt]
    refine ifF (by simp) (ifT (by simp) (ifF (by simp) (ifF (by simp) (sfootParse s (by omega) ?_))))
    cases hp : (Ft.parse s).2
    · rw [parse_no s hp]
      exact ifT rfl (ifT trivial (toB h (by simp [Ft.z, Ru.z])))
    · have hg := parse_ok s hp
      have eg : (Ft.parse s).1.text = ((Ft.parse s).1.txt, true) := by unfold Ft.text; rw [if_pos hg]
      refine ifF (by simp) (sfootText _ ?_)
      rw [eg]
      refine sfootParse (Ft.parse s).1.txt (by have := txt_len hg; omega) ?_
      rw [parse_foot _ hg]
      refine ifT trivial (sfootRight _ (ifT hg (ifT rfl (ifT rfl (toB h (by simp))))))
end Go.Proofs.YtcopbcfekmbhlaaDoor
end
section
set_option linter.unusedVariables false
set_option linter.unusedSimpArgs false
namespace Go.Proofs.YtcopbcfekmbhlaaDoor
open Go Go.Proofs.YtcopbcfekmbhlaaDoor.Eng Go.Proofs.YtcopbcfekmbhlaaDoor.Pl
theorem pureFootBack : PureFootBack := by
  unfold PureFootBack
  intros
  refine forFt (Q := fun t => Xepactlaw18_FootBack t _ _) (fun f => ?_) _
  rename_i s _ _ _ _ _ _ _ _ _ _ _ _ _
  rw [of_S s]
  exact lFootBack f _ rfl
end Go.Proofs.YtcopbcfekmbhlaaDoor
end
