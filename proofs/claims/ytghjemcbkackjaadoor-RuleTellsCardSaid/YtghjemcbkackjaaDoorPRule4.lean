/- What rules read and write, over lists of bytes; what was written is read as it was, whatever follows but digits, points, colons and strokes; and what is behind what is read is an end of the text. -/
import Derived.Test.YtghjemcbkackjaaDoorPRule2
import Derived.Test.YtghjemcbkackjaaDoorPRule3
import Derived.Test.YtghjemcbkackjaaDoorPx7
import Derived.Test.YtghjemcbkackjaaDoorPx5
namespace Go.Proofs.YtghjemcbkackjaaDoor.T
open Go.RowKit Go.Proofs.YtghjemcbkackjaaDoorW.PrintWords Go.Proofs.YtghjemcbkackjaaDoor.F Go.Proofs.YtghjemcbkackjaaDoor.P
set_option linter.unusedVariables false
set_option linter.unusedSimpArgs false

def cutL (c : UInt8) (l : List UInt8) : List UInt8 × Bool := if l.head? = some c then (l.tail, true) else (l, false)
theorem cutPrefix1 (c : UInt8) (l : List UInt8) : strings_CutPrefix.f (S l) (⟨#[c]⟩ : ByteArray) = some (S (cutL c l).1, (cutL c l).2) := by
  unfold strings_CutPrefix.f stringslite_CutPrefix.f cutL
  have hc : ((⟨#[c]⟩ : ByteArray).size : Int) = 1 := rfl
  rw [hasPrefix1, hc, S_sizeI]
  simp only [Option.bind_some]
  cases l with
  | nil => rfl
  | cons a r =>
    by_cases e : a = c
    · subst e
      rw [if_pos (by simp), if_pos (by omega), if_pos (by simp; omega), if_pos (by simp)]
      rw [show ((1 : Int) : Int).toNat = 1 from rfl, S_drop]
      rfl
    · rw [if_neg (by simpa using e), if_neg (by simpa using e)]; rfl
theorem cut_drop (c : UInt8) (l : List UInt8) : ∃ j, j ≤ l.length ∧ (cutL c l).1 = l.drop j := by
  unfold cutL
  split
  · cases l with
    | nil => rename_i h; simp at h
    | cons a r => exact ⟨1, by simp, rfl⟩
  · exact ⟨0, by omega, rfl⟩

/-- A number of so many digits at most. -/
def numberL (l : List UInt8) (m : Nat) : Int × List UInt8 × Bool := if dl l = 0 ∨ m < dl l then (0, l, false) else ((valL (l.take (dl l)) : Int), l.drop (dl l), true)
theorem numberR_eq (l : List UInt8) (m : Nat) (hm : m ≤ 18) (hl : l.length ≤ 140737488351232) : rule_number.f (S l) (m : Int) = some ((numberL l m).1, S (numberL l m).2.1, (numberL l m).2.2) := by
  unfold rule_number.f numberL
  have hd := dl_le l
  rw [rule_digits_S l (by omega)]
  simp only [Option.bind_some]
  by_cases h0 : dl l = 0
  · rw [if_pos (by omega), if_pos (Or.inl h0)]
  · rw [if_neg (by omega)]
    by_cases h1 : m < dl l
    · rw [if_pos (by omega), if_pos (Or.inr h1)]
    · rw [if_neg (show ¬ ((dl l : Int) > (m : Int)) by omega), if_neg (show ¬ (dl l = 0 ∨ m < dl l) by omega), if_pos (by omega), if_pos (by rw [S_size]; omega), Int.toNat_natCast, S_take]
      have hm9 : m ≤ 18 := hm
      rw [strconv_Atoi_S _ (fun h => h0 (by have := congrArg List.length h; rw [List.length_take, List.length_nil] at this; omega)) (take_dl_dig l _ (Nat.le_refl _)) (by rw [List.length_take]; omega)]
      simp only [Option.bind_some]
      rw [S_drop]
theorem numberL_drop (l : List UInt8) (m : Nat) : ∃ j, j ≤ l.length ∧ (numberL l m).2.1 = l.drop j ∧ ((numberL l m).2.2 = true → 0 < j) := by
  unfold numberL
  split
  · exact ⟨0, by omega, rfl, by simp⟩
  · exact ⟨dl l, dl_le l, rfl, fun _ => by omega⟩
theorem numberL_len (l : List UInt8) (m : Nat) : (numberL l m).2.1.length ≤ l.length := by
  obtain ⟨j, _, e, _⟩ := numberL_drop l m
  rw [e, List.length_drop]; omega
theorem cutL_len (c : UInt8) (l : List UInt8) : (cutL c l).1.length ≤ l.length := by
  obtain ⟨j, _, e⟩ := cut_drop c l
  rw [e, List.length_drop]; omega
theorem numberL_bd (l : List UInt8) (m : Nat) : 0 ≤ (numberL l m).1 ∧ ((numberL l m).1 : Int) < ((10 ^ m : Nat) : Int) := by
  unfold numberL
  have h1 : 0 < 10 ^ m := Nat.pos_of_ne_zero (by simp)
  split
  · simp only []; omega
  · rename_i h
    have hv := valL_lt _ (take_dl_dig l _ (Nat.le_refl _))
    have h2 : 10 ^ (l.take (dl l)).length ≤ 10 ^ m := Nat.pow_le_pow_right (by omega) (by rw [List.length_take]; omega)
    simp only []; omega

def weekL (l : List UInt8) : Int × Int × Int × List UInt8 × Bool :=
  ((numberL l 2).1, (numberL (cutL 46 (numberL l 2).2.1).1 1).1, (numberL (cutL 46 (numberL (cutL 46 (numberL l 2).2.1).1 1).2.1).1 1).1,
    (numberL (cutL 46 (numberL (cutL 46 (numberL l 2).2.1).1 1).2.1).1 1).2.1,
    (numberL l 2).2.2 && (numberL (cutL 46 (numberL l 2).2.1).1 1).2.2 && (numberL (cutL 46 (numberL (cutL 46 (numberL l 2).2.1).1 1).2.1).1 1).2.2 && (cutL 46 (numberL l 2).2.1).2 && (cutL 46 (numberL (cutL 46 (numberL l 2).2.1).1 1).2.1).2)
theorem weekR_eq (l : List UInt8) (hl : l.length ≤ 140737488351232) : rule_week.f (S l) = some (0, (weekL l).1, (weekL l).2.1, (weekL l).2.2.1, 0, S (weekL l).2.2.2.1, (weekL l).2.2.2.2) := by
  unfold rule_week.f weekL
  have l1 := numberL_len l 2
  have l2 := cutL_len 46 (numberL l 2).2.1
  have l3 := numberL_len (cutL 46 (numberL l 2).2.1).1 1
  have l4 := cutL_len 46 (numberL (cutL 46 (numberL l 2).2.1).1 1).2.1
  rw [show (2 : Int) = ((2 : Nat) : Int) from rfl, show (1 : Int) = ((1 : Nat) : Int) from rfl, numberR_eq l 2 (by omega) hl]
  simp only [Option.bind_some]
  rw [cutPrefix1]
  simp only [Option.bind_some]
  rw [numberR_eq _ 1 (by omega) (by omega)]
  simp only [Option.bind_some]
  rw [cutPrefix1]
  simp only [Option.bind_some]
  rw [numberR_eq _ 1 (by omega) (by omega)]
  simp only [Option.bind_some]
  generalize (numberL l 2).2.2 = b1
  generalize (numberL (cutL 46 (numberL l 2).2.1).1 1).2.2 = b2
  generalize (numberL (cutL 46 (numberL (cutL 46 (numberL l 2).2.1).1 1).2.1).1 1).2.2 = b3
  generalize (cutL 46 (numberL l 2).2.1).2 = b4
  cases b1 <;> cases b2 <;> cases b3 <;> cases b4 <;> simp
theorem weekL_drop (l : List UInt8) : ∃ j, j ≤ l.length ∧ (weekL l).2.2.2.1 = l.drop j ∧ ((weekL l).2.2.2.2 = true → 0 < j) := by
  unfold weekL
  obtain ⟨j1, h1, e1, p1⟩ := numberL_drop l 2
  obtain ⟨j2, h2, e2⟩ := cut_drop 46 (numberL l 2).2.1
  obtain ⟨j3, h3, e3, _⟩ := numberL_drop (cutL 46 (numberL l 2).2.1).1 1
  obtain ⟨j4, h4, e4⟩ := cut_drop 46 (numberL (cutL 46 (numberL l 2).2.1).1 1).2.1
  obtain ⟨j5, h5, e5, _⟩ := numberL_drop (cutL 46 (numberL (cutL 46 (numberL l 2).2.1).1 1).2.1).1 1
  refine ⟨j1 + j2 + j3 + j4 + j5, ?_, ?_, ?_⟩
  · rw [e4, List.length_drop, e3, List.length_drop, e2, List.length_drop, e1, List.length_drop] at h5
    rw [e3, List.length_drop, e2, List.length_drop, e1, List.length_drop] at h4
    rw [e2, List.length_drop, e1, List.length_drop] at h3
    rw [e1, List.length_drop] at h2
    omega
  · simp only []
    rw [e5, e4, e3, e2, e1]
    simp only [List.drop_drop]
  · intro h
    simp only [Bool.and_eq_true] at h
    have := p1 h.1.1.1.1
    omega

/-- A rule without its time. -/
def dateL (l : List UInt8) : Int × Int × Int × Int × List UInt8 × Bool :=
  if l.head? = some 77 then (0, weekL l.tail) else if l.head? = some 74 then (1, (numberL l.tail 3).1, 0, 0, (numberL l.tail 3).2) else (2, (numberL l 3).1, 0, 0, (numberL l 3).2)
theorem dateR_eq (l : List UInt8) (hl : l.length ≤ 140737488351232) : rule_date.f (S l) = some ((dateL l).1, (dateL l).2.1, (dateL l).2.2.1, (dateL l).2.2.2.1, 0, S (dateL l).2.2.2.2.1, (dateL l).2.2.2.2.2) := by
  unfold rule_date.f dateL
  have ht : l.tail.length ≤ 140737488351232 := by rw [List.length_tail]; omega
  rw [cutPrefix1, cutPrefix1, show (3 : Int) = ((3 : Nat) : Int) from rfl]
  simp only [Option.bind_some]
  unfold cutL
  by_cases h : l.head? = some 77
  · rw [if_pos h, if_pos h, if_pos rfl]
    simp only []
    rw [weekR_eq _ ht]
    rfl
  · rw [if_neg h, if_neg h]
    by_cases h' : l.head? = some 74
    · rw [if_pos h', if_pos h']
      rw [if_neg (by simp), if_pos rfl]
      simp only []
      rw [numberR_eq _ 3 (by omega) ht]
      rfl
    · rw [if_neg h', if_neg h']
      rw [if_neg (by simp), if_neg (by simp)]
      simp only []
      rw [numberR_eq _ 3 (by omega) hl]
      rfl
theorem dateL_drop (l : List UInt8) : ∃ j, j ≤ l.length ∧ (dateL l).2.2.2.2.1 = l.drop j ∧ ((dateL l).2.2.2.2.2 = true → 0 < j) := by
  unfold dateL
  by_cases h : l.head? = some 77
  · rw [if_pos h]
    obtain ⟨a, r, rfl⟩ : ∃ a r, l = a :: r := by cases l with | nil => simp at h | cons a r => exact ⟨a, r, rfl⟩
    obtain ⟨j, hj, e, _⟩ := weekL_drop r
    exact ⟨j + 1, by simp; omega, e, fun _ => by omega⟩
  · rw [if_neg h]
    by_cases h' : l.head? = some 74
    · rw [if_pos h']
      obtain ⟨a, r, rfl⟩ : ∃ a r, l = a :: r := by cases l with | nil => simp at h' | cons a r => exact ⟨a, r, rfl⟩
      obtain ⟨j, hj, e, _⟩ := numberL_drop r 3
      exact ⟨j + 1, by simp; omega, e, fun _ => by omega⟩
    · rw [if_neg h']
      exact numberL_drop l 3

/-- A rule. -/
def parseL (l : List UInt8) : Int × Int × Int × Int × Int × List UInt8 × Bool :=
  if (dateL l).2.2.2.2.2 = true then
    (if (dateL l).2.2.2.2.1.head? = some 47 then
      (if (timeL (dateL l).2.2.2.2.1.tail).2.2 = true ∧ rightR (dateL l).1 (dateL l).2.1 (dateL l).2.2.1 (dateL l).2.2.2.1 (timeL (dateL l).2.2.2.2.1.tail).1 = true then
        ((dateL l).1, (dateL l).2.1, (dateL l).2.2.1, (dateL l).2.2.2.1, (timeL (dateL l).2.2.2.2.1.tail).1, (timeL (dateL l).2.2.2.2.1.tail).2.1, true) else (0, 0, 0, 0, 0, l, false))
    else if rightR (dateL l).1 (dateL l).2.1 (dateL l).2.2.1 (dateL l).2.2.2.1 7200 = true then
      ((dateL l).1, (dateL l).2.1, (dateL l).2.2.1, (dateL l).2.2.2.1, 7200, (dateL l).2.2.2.2.1, true) else (0, 0, 0, 0, 0, l, false))
  else (0, 0, 0, 0, 0, l, false)
theorem parse_eq (k : Nat) (l : List UInt8) (hl : l.length ≤ 140737488351232) :
    rule_Parse.f (k + 2) (S l) = some ((parseL l).1, (parseL l).2.1, (parseL l).2.2.1, (parseL l).2.2.2.1, (parseL l).2.2.2.2.1, S (parseL l).2.2.2.2.2.1, (parseL l).2.2.2.2.2.2) := by
  unfold rule_Parse.f
  rw [dateR_eq l hl]
  simp only [Option.bind_some]
  rw [cutPrefix1]
  simp only [Option.bind_some]
  obtain ⟨j, hj, e, _⟩ := dateL_drop l
  have hr : (dateL l).2.2.2.2.1.tail.length ≤ 140737488351232 := by rw [List.length_tail, e, List.length_drop]; omega
  unfold parseL
  by_cases hok : (dateL l).2.2.2.2.2 = true
  · rw [if_pos hok, if_pos hok, hok]
    simp only [rule_Parse.j0]
    unfold cutL
    by_cases hc : (dateL l).2.2.2.2.1.head? = some 47
    · rw [if_pos hc, if_pos hc, if_pos rfl]
      simp only []
      rw [time_eq k _ hr]
      simp only [Option.bind_some]
      by_cases ht : (timeL (dateL l).2.2.2.2.1.tail).2.2 = true
      · rw [if_pos ht, right_eq]
        simp only [Option.bind_some]
        by_cases hR : rightR (dateL l).1 (dateL l).2.1 (dateL l).2.2.1 (dateL l).2.2.2.1 (timeL (dateL l).2.2.2.2.1.tail).1 = true
        · rw [if_pos hR, if_pos ⟨ht, hR⟩]
        · rw [if_neg hR, if_neg (fun h => hR h.2)]
      · rw [if_neg ht, if_neg (fun h => ht h.1)]
    · rw [if_neg hc, if_neg hc]
      rw [if_neg (by simp), if_pos trivial, right_eq]
      simp only [Option.bind_some]
      by_cases hR : rightR (dateL l).1 (dateL l).2.1 (dateL l).2.2.1 (dateL l).2.2.2.1 7200 = true
      · rw [if_pos hR, if_pos hR]
      · rw [if_neg hR, if_neg hR]
  · rw [if_neg hok, if_neg hok]
    simp only [rule_Parse.j0]
    rw [if_neg (by decide), if_neg hok]
theorem parse_good (l : List UInt8) (h : (parseL l).2.2.2.2.2.2 = true) :
    rightR (parseL l).1 (parseL l).2.1 (parseL l).2.2.1 (parseL l).2.2.2.1 (parseL l).2.2.2.2.1 = true ∧ ∃ j, 0 < j ∧ j ≤ l.length ∧ (parseL l).2.2.2.2.2.1 = l.drop j := by
  obtain ⟨j, hj, e, hp⟩ := dateL_drop l
  revert h
  unfold parseL
  by_cases hok : (dateL l).2.2.2.2.2 = true
  · have hp := hp hok
    rw [if_pos hok]
    by_cases hc : (dateL l).2.2.2.2.1.head? = some 47
    · rw [if_pos hc]
      by_cases hR : (timeL (dateL l).2.2.2.2.1.tail).2.2 = true ∧ rightR (dateL l).1 (dateL l).2.1 (dateL l).2.2.1 (dateL l).2.2.2.1 (timeL (dateL l).2.2.2.2.1.tail).1 = true
      · rw [if_pos hR]
        intro _
        obtain ⟨i, hi, ei, _⟩ := time_drop (dateL l).2.2.2.2.1.tail
        refine ⟨hR.2, j + 1 + i, by omega, ?_, ?_⟩
        · rw [List.length_tail, e, List.length_drop] at hi
          have : (dateL l).2.2.2.2.1.length ≠ 0 := by intro h0; rw [List.eq_nil_of_length_eq_zero h0] at hc; simp at hc
          rw [e, List.length_drop] at this
          omega
        · simp only []
          rw [ei, e, ← List.drop_one, List.drop_drop, List.drop_drop]
          congr 1; omega
      · rw [if_neg hR]; intro h; simp at h
    · rw [if_neg hc]
      by_cases hR : rightR (dateL l).1 (dateL l).2.1 (dateL l).2.2.1 (dateL l).2.2.2.1 7200 = true
      · rw [if_pos hR]
        intro _
        exact ⟨hR, j, hp, hj, e⟩
      · rw [if_neg hR]; intro h; simp at h
  · rw [if_neg hok]; intro h; simp at h
theorem parse_bad (l : List UInt8) (h : (parseL l).2.2.2.2.2.2 = false) : parseL l = (0, 0, 0, 0, 0, l, false) := by
  revert h
  unfold parseL
  split
  · split
    · split
      · intro h; simp at h
      · intro _; rfl
    · split
      · intro h; simp at h
      · intro _; rfl
  · intro _; rfl

/-- A rule's text. -/
def headL (K A B C : Int) : List UInt8 := if K = 0 then 77 :: (itoaK A ++ 46 :: (itoaK B ++ 46 :: itoaK C)) else if K = 1 then 74 :: itoaK A else itoaK A
def tailL (X : Int) : List UInt8 := if X = 7200 then [] else 47 :: (clockL X).1
def textL (K A B C X : Int) : List UInt8 × Bool := if rightR K A B C X = true then (headL K A B C ++ tailL X, true) else ([], false)
theorem clockL_len (X : Int) : (clockL X).1.length ≤ 200 := by
  unfold clockL
  split
  · have l1 := digsN_len 20 (X.natAbs / 3600)
    have l2 := pairL_len (X.natAbs / 60 % 60)
    have l3 := pairL_len (X.natAbs % 60)
    have : (clockB X.natAbs).length ≤ 102 := by
      unfold clockB
      rw [List.length_append]
      split
      · rw [List.length_append]; omega
      · split
        · omega
        · simp; omega
    simp only []
    rw [List.length_append]
    split
    · simp; omega
    · simp; omega
  · simp
theorem itoaK_len (n : Int) : (itoaK n).length ≤ 21 := by
  unfold itoaK
  split
  · have := digsN_len 20 n.natAbs; simp; omega
  · have := digsN_len 20 n.toNat; omega
theorem textL_len (K A B C X : Int) : (textL K A B C X).1.length ≤ 300 := by
  have h1 := itoaK_len A
  have h2 := itoaK_len B
  have h3 := itoaK_len C
  have h4 := clockL_len X
  unfold textL headL tailL
  split
  · simp only []
    rw [List.length_append]
    repeat' split
    all_goals (simp; omega)
  · simp
theorem text_eq (k : Nat) (K A B C X : Int) (hX : (Lit.int .i64 X).wf = true) :
    rule_Text.f (k + 1) K A B C X = some (S (textL K A B C X).1, (textL K A B C X).2) := by
  unfold rule_Text.f textL
  rw [right_eq]
  simp only [Option.bind_some]
  by_cases hR : rightR K A B C X = true
  · rw [if_pos hR, if_pos hR]
    have hr := (right_iff K A B C X).1 hR
    have h1 := itoaK_len A
    have h2 := itoaK_len B
    have h3 := itoaK_len C
    have h4 := clockL_len X
    rw [itoa_S A (by omega) (by omega), itoa_S B (by omega) (by omega), itoa_S C (by omega) (by omega), clock_eq k X hX]
    simp only [Option.bind_some]
    unfold headL tailL
    simp only [show (⟨#[77]⟩ : ByteArray) = S [77] from rfl, show (⟨#[74]⟩ : ByteArray) = S [74] from rfl, show (⟨#[46]⟩ : ByteArray) = S [46] from rfl, show (⟨#[47]⟩ : ByteArray) = S [47] from rfl, S_append, S_size]
    by_cases k0 : K = 0
    · rw [if_pos k0, if_pos k0, if_pos (by omega), if_pos (by omega), if_pos (by omega), if_pos (by omega), if_pos (by omega)]
      by_cases x7 : X = 7200
      · rw [if_pos x7, if_pos x7]; simp
      · rw [if_neg x7, if_neg x7, if_pos (by omega), if_pos (by omega)]; simp
    · rw [if_neg k0, if_neg k0]
      by_cases k1 : K = 1
      · rw [if_pos k1, if_pos k1, if_pos (by omega)]
        by_cases x7 : X = 7200
        · rw [if_pos x7, if_pos x7]; simp
        · rw [if_neg x7, if_neg x7, if_pos (by omega), if_pos (by omega)]; simp
      · rw [if_neg k1, if_neg k1]
        by_cases x7 : X = 7200
        · rw [if_pos x7, if_pos x7]; simp
        · rw [if_neg x7, if_neg x7, if_pos (by omega), if_pos (by omega)]; simp
  · rw [if_neg hR, if_neg hR]

/-! ### What was written is read -/
theorem nums_ok : ∀ a, a < 366 → ((digsN 20 a).all isDig = true ∧ valL (digsN 20 a) = a ∧ 1 ≤ (digsN 20 a).length ∧ (digsN 20 a).length ≤ 3 ∧ (a < 100 → (digsN 20 a).length ≤ 2) ∧ (a < 10 → (digsN 20 a).length ≤ 1)) := by decide +kernel
theorem numberL_app (a : Nat) (ha : a < 366) (m : Nat) (hm : (digsN 20 a).length ≤ m) (t : List UInt8) (ht : ∀ c, t.head? = some c → isDig c = false) : numberL (digsN 20 a ++ t) m = ((a : Int), t, true) := by
  obtain ⟨h1, h2, h3, _⟩ := nums_ok a ha
  unfold numberL
  rw [dl_app _ _ h1 ht, if_neg (by omega), List.take_left, List.drop_left, h2]
theorem digs_head (a : Nat) (ha : a < 366) (t : List UInt8) (c : UInt8) (hc : isDig c = false) : (digsN 20 a ++ t).head? ≠ some c := by
  obtain ⟨h1, _, h3, _⟩ := nums_ok a ha
  cases hd : digsN 20 a with
  | nil => rw [hd] at h3; simp at h3
  | cons x r =>
    rw [hd] at h1
    simp only [List.cons_append, List.head?_cons, ne_eq, Option.some.injEq]
    rintro rfl
    simp only [List.all_cons, Bool.and_eq_true] at h1
    rw [hc] at h1
    exact absurd h1.1 (by simp)
theorem date_head (K A B C X : Int) (hR : rightR K A B C X = true) (t : List UInt8) (ht : ∀ c, t.head? = some c → isDig c = false) : dateL (headL K A B C ++ t) = (K, A, B, C, t, true) := by
  have hr := (right_iff K A B C X).1 hR
  obtain ⟨a, rfl⟩ : ∃ a : Nat, A = (a : Int) := ⟨A.toNat, by omega⟩
  obtain ⟨b, rfl⟩ : ∃ a : Nat, B = (a : Int) := ⟨B.toNat, by omega⟩
  obtain ⟨c, rfl⟩ : ∃ a : Nat, C = (a : Int) := ⟨C.toNat, by omega⟩
  obtain ⟨_, _, _, a3, a2, _⟩ := nums_ok a (by omega)
  unfold dateL headL
  rw [itoaK_nat, itoaK_nat, itoaK_nat]
  by_cases k0 : K = 0
  · subst k0
    obtain ⟨_, _, _, _, _, b1⟩ := nums_ok b (by omega)
    obtain ⟨_, _, _, _, _, c1⟩ := nums_ok c (by omega)
    rw [if_pos rfl, List.cons_append, if_pos (by rfl)]
    simp only [List.tail_cons, List.append_assoc, List.cons_append]
    unfold weekL
    rw [numberL_app a (by omega) 2 (a2 (by omega)) _ (by intro c hc; simp at hc; subst hc; rfl)]
    simp only []
    rw [show cutL 46 (46 :: (digsN 20 b ++ 46 :: (digsN 20 c ++ t))) = (digsN 20 b ++ 46 :: (digsN 20 c ++ t), true) from rfl]
    simp only []
    rw [numberL_app b (by omega) 1 (b1 (by omega)) _ (by intro c hc; simp at hc; subst hc; rfl)]
    simp only []
    rw [show cutL 46 (46 :: (digsN 20 c ++ t)) = (digsN 20 c ++ t, true) from rfl]
    simp only []
    rw [numberL_app c (by omega) 1 (c1 (by omega)) _ ht]
    rfl
  · rw [if_neg k0]
    by_cases k1 : K = 1
    · subst k1
      rw [if_pos rfl, List.cons_append, if_neg (by simp), if_pos (by rfl), List.tail_cons, numberL_app a (by omega) 3 a3 _ ht]
      have : b = 0 ∧ c = 0 := by omega
      rw [this.1, this.2]; rfl
    · rw [if_neg k1, if_neg (digs_head a (by omega) t 77 rfl), if_neg (digs_head a (by omega) t 74 rfl), numberL_app a (by omega) 3 a3 _ ht]
      have : b = 0 ∧ c = 0 ∧ K = 2 := by omega
      rw [this.1, this.2.1, this.2.2]; rfl
theorem parse_text (K A B C X : Int) (hR : rightR K A B C X = true) (t : List UInt8) (ht : ∀ c, t.head? = some c → isDig c = false ∧ c ≠ 58 ∧ c ≠ 47) :
    parseL ((textL K A B C X).1 ++ t) = (K, A, B, C, X, t, true) := by
  have hr := (right_iff K A B C X).1 hR
  unfold textL
  rw [if_pos hR]
  simp only []
  rw [List.append_assoc]
  have hd : dateL (headL K A B C ++ (tailL X ++ t)) = (K, A, B, C, tailL X ++ t, true) := by
    refine date_head K A B C X hR _ ?_
    intro c hc
    unfold tailL at hc
    split at hc
    · exact (ht c hc).1
    · simp at hc; subst hc; rfl
  unfold parseL
  rw [hd]
  simp only []
  rw [if_pos trivial]
  unfold tailL
  by_cases x7 : X = 7200
  · subst x7
    rw [if_pos rfl, List.nil_append, if_neg (fun h => (ht _ h).2.2 rfl), if_pos hR]
  · rw [if_neg x7, List.cons_append, if_pos (by rfl), List.tail_cons, time_clock X hr.1 t (fun c hc => ⟨(ht c hc).1, (ht c hc).2.1⟩)]
    simp only []
    rw [if_pos ⟨trivial, hR⟩]
end Go.Proofs.YtghjemcbkackjaaDoor.T
