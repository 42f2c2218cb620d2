/- The document's own answer for rules: what is read, and texts, are the program's. -/
import Derived.Test.YtghjemcbkackjaaDoorPRef17c
namespace Go.Proofs.YtghjemcbkackjaaDoor.T
open Go.RowKit Go.Proofs.YtghjemcbkackjaaDoorW.PrintWords Go.Proofs.YtghjemcbkackjaaDoor.F Go.Proofs.YtghjemcbkackjaaDoor.P
set_option linter.unusedVariables false
set_option linter.unusedSimpArgs false

theorem dot_yes {l : List UInt8} (h : 0 ≤ (refDot l).1) : cutL 46 l = (l.tail, true) ∧ numberL l.tail 1 = ((refDot l).1, (refDot l).2, true) := by
  unfold refDot at h ⊢
  unfold cutL
  by_cases c : l.head? = some 46
  · rw [if_pos c] at h ⊢
    rw [if_pos c]
    exact ⟨rfl, refNum_yes h⟩
  · rw [if_neg c] at h; simp at h
theorem dot_of {l : List UInt8} (h1 : (cutL 46 l).2 = true) (h2 : (numberL (cutL 46 l).1 1).2.2 = true) : refDot l = ((numberL (cutL 46 l).1 1).1, (numberL (cutL 46 l).1 1).2.1) := by
  unfold cutL at h1 h2 ⊢
  unfold refDot
  by_cases c : l.head? = some 46
  · rw [if_pos c] at h2 ⊢
    rw [if_pos c]
    have hb := numberL_bd l.tail 1
    exact refNum_of h2 (by have h3 := hb.2; rw [show ((10 ^ 1 : Nat) : Int) = 10 from rfl] at h3; omega)
  · rw [if_neg c] at h1; cases h1
theorem head_yes (l : List UInt8) (h : rightR (refHead l).1 (refHead l).2.1 (refHead l).2.2.1 (refHead l).2.2.2.1 7200 = true) :
    dateL l = ((refHead l).1, (refHead l).2.1, (refHead l).2.2.1, (refHead l).2.2.2.1, (refHead l).2.2.2.2, true) := by
  have hr := (right_iff _ _ _ _ _).1 h
  revert hr
  unfold refHead dateL
  by_cases h77 : l.head? = some 77
  · rw [if_pos h77, if_pos h77]
    simp only []
    intro hr
    have y1 := refNum_yes (l := l.tail) (m := 2) (hi := 12) (by omega)
    have y2 := dot_yes (l := (refNum l.tail 2 12).2) (by omega)
    have y3 := dot_yes (l := (refDot (refNum l.tail 2 12).2).2) (by omega)
    unfold weekL
    rw [y1]
    simp only []
    rw [y2.1]
    simp only []
    rw [y2.2]
    simp only []
    rw [y3.1]
    simp only []
    rw [y3.2]
    rfl
  · rw [if_neg h77, if_neg h77]
    by_cases h74 : l.head? = some 74
    · rw [if_pos h74, if_pos h74]
      simp only []
      intro hr
      rw [refNum_yes (l := l.tail) (m := 3) (hi := 365) (by omega)]
    · rw [if_neg h74, if_neg h74]
      simp only []
      intro hr
      rw [refNum_yes (l := l) (m := 3) (hi := 365) (by omega)]
theorem head_of (l : List UInt8) (ho : (dateL l).2.2.2.2.2 = true) (h : rightR (dateL l).1 (dateL l).2.1 (dateL l).2.2.1 (dateL l).2.2.2.1 7200 = true) :
    refHead l = ((dateL l).1, (dateL l).2.1, (dateL l).2.2.1, (dateL l).2.2.2.1, (dateL l).2.2.2.2.1) := by
  have hr := (right_iff _ _ _ _ _).1 h
  revert hr ho
  unfold refHead dateL
  by_cases h77 : l.head? = some 77
  · rw [if_pos h77, if_pos h77]
    simp only []
    unfold weekL
    simp only [Bool.and_eq_true]
    intro ho hr
    have z1 := refNum_of (l := l.tail) (m := 2) (hi := 12) ho.1.1.1.1 (by omega)
    rw [z1]
    simp only []
    have z2 := dot_of ho.1.2 ho.1.1.1.2
    rw [z2]
    simp only []
    have z3 := dot_of ho.2 ho.1.1.2
    rw [z3]
  · rw [if_neg h77, if_neg h77]
    by_cases h74 : l.head? = some 74
    · rw [if_pos h74, if_pos h74]
      simp only []
      intro ho hr
      rw [refNum_of (l := l.tail) (m := 3) (hi := 365) ho (by omega)]
    · rw [if_neg h74, if_neg h74]
      simp only []
      intro ho hr
      rw [refNum_of (l := l) (m := 3) (hi := 365) ho (by omega)]
theorem right_sec (K A B C X Y : Int) (hX : -604799 ≤ X ∧ X ≤ 604799) (hY : -604799 ≤ Y ∧ Y ≤ 604799) : rightR K A B C X = rightR K A B C Y := by
  rw [Bool.eq_iff_iff, right_iff, right_iff]
  constructor
  · intro h; exact ⟨hY, h.2⟩
  · intro h; exact ⟨hX, h.2⟩
theorem refParse_eq (k : Nat) (l : List UInt8) (hk : 12 ≤ k) :
    epactref17_Parse.f k (S l) = some ((parseL l).1, (parseL l).2.1, (parseL l).2.2.1, (parseL l).2.2.2.1, (parseL l).2.2.2.2.1, S (parseL l).2.2.2.2.2.1, (parseL l).2.2.2.2.2.2) := by
  obtain ⟨k, rfl⟩ : ∃ j, k = j + 1 := ⟨k - 1, by omega⟩
  unfold epactref17_Parse.f
  rw [refHead_eq l (k + 1) (by omega)]
  simp only [Option.bind_some]
  rw [refRight_eq]
  simp only [Option.bind_some]
  by_cases hR : rightR (refHead l).1 (refHead l).2.1 (refHead l).2.2.1 (refHead l).2.2.2.1 7200 = true
  · rw [if_pos hR]
    have hd := head_yes l hR
    unfold parseL
    rw [hd]
    simp only []
    rw [if_pos trivial]
    generalize hr : (refHead l).2.2.2.2 = rest
    rw [S_sizeI]
    match rest with
    | [] =>
      rw [if_neg (by simp), epactref17_Parse.j0, if_neg (by decide), if_neg (by simp), if_pos hR]
    | c :: r =>
      have hlen : (c :: r).length = r.length + 1 := rfl
      rw [if_pos (by rw [hlen]; omega), if_pos (by rw [hlen]; omega), S_bt0]
      by_cases h47 : c = 47
      · subst h47
        rw [show (((47 : UInt8).toNat : Int) == 47) = true from rfl, epactref17_Parse.j0, if_pos rfl, S_sizeI, if_pos (by rw [hlen]; omega), S_drop, if_pos (by rfl)]
        rw [List.drop_succ_cons, List.drop_zero, List.tail_cons]
        rw [refTime_eq k r (by omega)]
        simp only [Option.bind_some]
        obtain ⟨j, _, _, _, b1, b2, _⟩ := time_drop r
        have hs := right_sec (refHead l).1 (refHead l).2.1 (refHead l).2.2.1 (refHead l).2.2.2.1 (timeL r).1 7200 ⟨b1, b2⟩ (by omega)
        have hR' := hs.trans hR
        by_cases ht : (timeL r).2.2 = true
        · rw [if_pos ht, if_pos ⟨ht, hR'⟩]
        · rw [if_neg ht, if_neg (fun h => ht h.1)]
      · have n47 : ((c.toNat : Int) == 47) = false := by
          rw [beq_eq_false_iff_ne]
          exact fun h => h47 (u8_eq (by simpa using Int.ofNat_inj.1 h))
        rw [n47, epactref17_Parse.j0, if_neg (by decide), if_neg (by simpa using h47), if_pos hR]
  · rw [if_neg hR]
    have hno : (dateL l).2.2.2.2.2 = true → ¬ rightR (dateL l).1 (dateL l).2.1 (dateL l).2.2.1 (dateL l).2.2.2.1 7200 = true := by
      intro ho h
      have e := head_of l ho h
      rw [e] at hR
      exact hR h
    have hz : parseL l = (0, 0, 0, 0, 0, l, false) := by
      unfold parseL
      by_cases ho : (dateL l).2.2.2.2.2 = true
      · rw [if_pos ho]
        have h' := hno ho
        split
        · obtain ⟨j, _, _, _, b1, b2, _⟩ := time_drop (dateL l).2.2.2.2.1.tail
          rw [if_neg (fun h => h' ((right_sec _ _ _ _ 7200 (timeL (dateL l).2.2.2.2.1.tail).1 (by omega) ⟨b1, b2⟩).trans h.2))]
        · first | rfl | rw [if_neg h']
      · rw [if_neg ho]
    rw [hz]
theorem refText_eq (k : Nat) (K A B C X : Int) (hk : 40 ≤ k) : epactref17_Text.f k K A B C X = some (S (textL K A B C X).1, (textL K A B C X).2) := by
  obtain ⟨k, rfl⟩ : ∃ j, k = j + 1 := ⟨k - 1, by omega⟩
  unfold epactref17_Text.f textL
  rw [refRight_eq]
  simp only [Option.bind_some]
  by_cases hR : rightR K A B C X = true
  · rw [if_pos hR, if_pos hR]
    have hr := (right_iff K A B C X).1 hR
    obtain ⟨a, rfl⟩ : ∃ a : Nat, A = (a : Int) := ⟨A.toNat, by omega⟩
    obtain ⟨b, rfl⟩ : ∃ a : Nat, B = (a : Int) := ⟨B.toNat, by omega⟩
    obtain ⟨c, rfl⟩ : ∃ a : Nat, C = (a : Int) := ⟨C.toNat, by omega⟩
    have h1 := digsN_len 20 a
    have h2 := digsN_len 20 b
    have h3 := digsN_len 20 c
    have h4 := clockL_len X
    rw [dec17_one a (k + 1) (by omega) (by omega), dec17_one b (k + 1) (by omega) (by omega), dec17_one c (k + 1) (by omega) (by omega)]
    simp only [Option.bind_some]
    have j0 : ∀ p : List UInt8, p.length ≤ 100 → epactref17_Text.j0 (k + 1) (S p) K a b c X = some (S ((if K = 1 then 74 :: p else p) ++ tailL X), true) := by
      intro p hp
      rw [epactref17_Text.j0, refClock_eq k X (by omega)]
      simp only [Option.bind_some]
      unfold tailL
      simp only [show (⟨#[74]⟩ : ByteArray) = S [74] from rfl, show (⟨#[47]⟩ : ByteArray) = S [47] from rfl, S_append, S_size]
      by_cases k1 : K = 1
      · rw [if_pos k1, if_pos k1, if_pos (by omega)]
        by_cases x7 : X = 7200
        · rw [if_pos x7, if_pos x7]; simp
        · rw [if_neg x7, if_neg x7, if_pos (by omega), if_pos (by omega)]; simp
      · rw [if_neg k1, if_neg k1]
        by_cases x7 : X = 7200
        · rw [if_pos x7, if_pos x7]; simp
        · rw [if_neg x7, if_neg x7, if_pos (by omega), if_pos (by omega)]; simp
    unfold headL
    rw [itoaK_nat, itoaK_nat, itoaK_nat]
    by_cases k0 : K = 0
    · rw [if_pos k0, if_pos k0]
      simp only [show (⟨#[77]⟩ : ByteArray) = S [77] from rfl, show (⟨#[46]⟩ : ByteArray) = S [46] from rfl, S_append, S_size]
      rw [if_pos (by omega), if_pos (by omega), if_pos (by omega), if_pos (by omega), if_pos (by omega), j0 _ (by simp; omega), if_neg (by omega)]
      simp
    · rw [if_neg k0, if_neg k0, j0 _ (by omega)]
  · rw [if_neg hR, if_neg hR]
end Go.Proofs.YtghjemcbkackjaaDoor.T
