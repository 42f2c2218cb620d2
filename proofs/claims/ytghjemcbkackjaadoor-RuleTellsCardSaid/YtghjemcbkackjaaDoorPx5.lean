-- written by this project's program mkprint.py out of the translation; Lean checks it
import Derived.Test.YtghjemcbkackjaaDoorPx0
import Derived.Test.YtghjemcbkackjaaDoorPx2
import Derived.Test.YtghjemcbkackjaaDoorPx4
namespace Go.Proofs.YtghjemcbkackjaaDoor.P
open Go.Proofs.YtghjemcbkackjaaDoor.F
open Go.RowKit Go.Proofs.YtghjemcbkackjaaDoorW.PrintWords Go.Proofs.YtghjemcbkackjaaDoorW.PrintLast Go.Proofs.YtghjemcbkackjaaDoorW.PrintMore
attribute [local go_sem] max2_int min2_int max_two min_two max_three min_three max_four min_four   -- for this text's walks alone
set_option linter.unusedVariables false
set_option linter.unusedSimpArgs false

/-! ### rule_Text: function 26 -/
def rule_Text.f (k : Nat) (a0_0 : Int) (a0_1 : Int) (a0_2 : Int) (a0_3 : Int) (a0_4 : Int) : Option (ByteArray × Bool) := (rule_Right.f a0_0 a0_1 a0_2 a0_3 a0_4).bind fun t141 => (if t141 = true then ((strconv_Itoa.f a0_1).bind fun t142 => (if a0_0 = 0 then (if 1 + t142.size ≤ 9223372036854775807 then (if 1 + t142.size + 1 ≤ 9223372036854775807 then ((strconv_Itoa.f a0_2).bind fun t143 => (if 1 + t142.size + 1 + t143.size ≤ 9223372036854775807 then (if 1 + t142.size + 1 + t143.size + 1 ≤ 9223372036854775807 then ((strconv_Itoa.f a0_3).bind fun t144 => (if 1 + t142.size + 1 + t143.size + 1 + t144.size ≤ 9223372036854775807 then (if a0_4 = 7200 then (some ((((((⟨#[77]⟩ : ByteArray) ++ t142) ++ (⟨#[46]⟩ : ByteArray)) ++ t143) ++ (⟨#[46]⟩ : ByteArray)) ++ t144, true)) else ((rule_Clock.f k a0_4).bind fun bt145 => (if 1 + bt145.1.size ≤ 9223372036854775807 then (if 1 + t142.size + 1 + t143.size + 1 + t144.size + 1 + bt145.1.size ≤ 9223372036854775807 then (some (((((((⟨#[77]⟩ : ByteArray) ++ t142) ++ (⟨#[46]⟩ : ByteArray)) ++ t143) ++ (⟨#[46]⟩ : ByteArray)) ++ t144) ++ ((⟨#[47]⟩ : ByteArray) ++ bt145.1), true)) else (none)) else (none)))) else (none))) else (none)) else (none))) else (none)) else (none)) else (if a0_0 = 1 then (if 1 + t142.size ≤ 9223372036854775807 then (if a0_4 = 7200 then (some ((⟨#[74]⟩ : ByteArray) ++ t142, true)) else ((rule_Clock.f k a0_4).bind fun bt147 => (if 1 + bt147.1.size ≤ 9223372036854775807 then (if 1 + t142.size + 1 + bt147.1.size ≤ 9223372036854775807 then (some (((⟨#[74]⟩ : ByteArray) ++ t142) ++ ((⟨#[47]⟩ : ByteArray) ++ bt147.1), true)) else (none)) else (none)))) else (none)) else (if a0_4 = 7200 then (some (t142, true)) else ((rule_Clock.f k a0_4).bind fun bt149 => (if 1 + bt149.1.size ≤ 9223372036854775807 then (if t142.size + 1 + bt149.1.size ≤ 9223372036854775807 then (some (t142 ++ ((⟨#[47]⟩ : ByteArray) ++ bt149.1), true)) else (none)) else (none))))))) else (some ((⟨#[]⟩ : ByteArray), false)))
theorem rule_Text.mono : ∀ a0 a1 a2 a3 a4 k, LeO (rule_Text.f k a0 a1 a2 a3 a4) (rule_Text.f (k + 1) a0 a1 a2 a3 a4) := by
  intro a0 a1 a2 a3 a4 k
  unfold rule_Text.f
  repeat' first
      | (with_reducible exact rule_Clock.mono _ _)
      | (with_reducible exact LeO.refl _)
      | (with_reducible exact LeO.none _)
      | (with_reducible refine LeO.ite ?_ ?_)
      | (with_reducible refine LeO.bind ?_ (fun _ => ?_))
      | exact rule_Clock.mono _ _
      | exact LeO.none _
      | refine LeO.ite ?_ ?_
      | refine LeO.bind ?_ (fun _ => ?_)
def rule_Text.T6 : Bool × List (List Nat × List Nat) := (true, [([], []), ([0], [0]), ([1], [1]), ([], []), ([3], [3]), ([4], [4]), ([2, 5], [2, 5]), ([6], [6]), ([], []), ([8], [8]), ([9, 5], [9]), ([7, 10], [7, 10]), ([11, 10, 0, 1, 2, 3, 4, 5, 6, 7, 8, 9, 10, 11], [0, 11])])
def rule_Text.B6 : List Nat := [0, 1, 3, 0, 8, 24, 63, 127, 0, 256, 824, 2047, 4095]
theorem rule_Text.tab6 : rtab .any (opsOf Tryd.f26 6) = rule_Text.T6 := by kernel_rfl
theorem rule_Text.bits6 : waitsOk rule_Text.T6.2 rule_Text.B6 = true := by kernel_rfl
set_option maxHeartbeats 8000000 in
set_option maxRecDepth 100000 in
theorem rule_Text.calls (k : Nat) (a0_0 : Int) (a0_1 : Int) (a0_2 : Int) (a0_3 : Int) (a0_4 : Int) (r1 : ByteArray) (r2 : Bool) (w : World) (hG : GW w) (h : rule_Text.f k a0_0 a0_1 a0_2 a0_3 a0_4 = some (r1, r2)) :
    Calls Tryd.prog 26 #[.agg #[.int .i64 a0_0, .int .i64 a0_1, .int .i64 a0_2, .int .i64 a0_3, .int .i64 a0_4]] w fun e w' => e = .returned (.tuple #[.string r1, .bool r2]) ∧ Below w.heap.size w w' := by
  have hu42 := Tryd.underlying42
  have HB := Aside0.mk (Below.refl w.heap.size w)
  have H : ((rule_Right.f a0_0 a0_1 a0_2 a0_3 a0_4).bind fun t141 => (if t141 = true then ((strconv_Itoa.f a0_1).bind fun t142 => (if a0_0 = 0 then (if 1 + t142.size ≤ 9223372036854775807 then (if 1 + t142.size + 1 ≤ 9223372036854775807 then ((strconv_Itoa.f a0_2).bind fun t143 => (if 1 + t142.size + 1 + t143.size ≤ 9223372036854775807 then (if 1 + t142.size + 1 + t143.size + 1 ≤ 9223372036854775807 then ((strconv_Itoa.f a0_3).bind fun t144 => (if 1 + t142.size + 1 + t143.size + 1 + t144.size ≤ 9223372036854775807 then (if a0_4 = 7200 then (some ((((((⟨#[77]⟩ : ByteArray) ++ t142) ++ (⟨#[46]⟩ : ByteArray)) ++ t143) ++ (⟨#[46]⟩ : ByteArray)) ++ t144, true)) else ((rule_Clock.f k a0_4).bind fun bt145 => (if 1 + bt145.1.size ≤ 9223372036854775807 then (if 1 + t142.size + 1 + t143.size + 1 + t144.size + 1 + bt145.1.size ≤ 9223372036854775807 then (some (((((((⟨#[77]⟩ : ByteArray) ++ t142) ++ (⟨#[46]⟩ : ByteArray)) ++ t143) ++ (⟨#[46]⟩ : ByteArray)) ++ t144) ++ ((⟨#[47]⟩ : ByteArray) ++ bt145.1), true)) else (none)) else (none)))) else (none))) else (none)) else (none))) else (none)) else (none)) else (if a0_0 = 1 then (if 1 + t142.size ≤ 9223372036854775807 then (if a0_4 = 7200 then (some ((⟨#[74]⟩ : ByteArray) ++ t142, true)) else ((rule_Clock.f k a0_4).bind fun bt147 => (if 1 + bt147.1.size ≤ 9223372036854775807 then (if 1 + t142.size + 1 + bt147.1.size ≤ 9223372036854775807 then (some (((⟨#[74]⟩ : ByteArray) ++ t142) ++ ((⟨#[47]⟩ : ByteArray) ++ bt147.1), true)) else (none)) else (none)))) else (none)) else (if a0_4 = 7200 then (some (t142, true)) else ((rule_Clock.f k a0_4).bind fun bt149 => (if 1 + bt149.1.size ≤ 9223372036854775807 then (if t142.size + 1 + bt149.1.size ≤ 9223372036854775807 then (some (t142 ++ ((⟨#[47]⟩ : ByteArray) ++ bt149.1), true)) else (none)) else (none))))))) else (some ((⟨#[]⟩ : ByteArray), false)))) = some (r1, r2) := h
  clear h
  replace H := Option.bind_eq_some_iff.mp H
  obtain ⟨t141, A20, H⟩ := H
  replace H : (if t141 = true then ((strconv_Itoa.f a0_1).bind fun t142 => (if a0_0 = 0 then (if 1 + t142.size ≤ 9223372036854775807 then (if 1 + t142.size + 1 ≤ 9223372036854775807 then ((strconv_Itoa.f a0_2).bind fun t143 => (if 1 + t142.size + 1 + t143.size ≤ 9223372036854775807 then (if 1 + t142.size + 1 + t143.size + 1 ≤ 9223372036854775807 then ((strconv_Itoa.f a0_3).bind fun t144 => (if 1 + t142.size + 1 + t143.size + 1 + t144.size ≤ 9223372036854775807 then (if a0_4 = 7200 then (some ((((((⟨#[77]⟩ : ByteArray) ++ t142) ++ (⟨#[46]⟩ : ByteArray)) ++ t143) ++ (⟨#[46]⟩ : ByteArray)) ++ t144, true)) else ((rule_Clock.f k a0_4).bind fun bt145 => (if 1 + bt145.1.size ≤ 9223372036854775807 then (if 1 + t142.size + 1 + t143.size + 1 + t144.size + 1 + bt145.1.size ≤ 9223372036854775807 then (some (((((((⟨#[77]⟩ : ByteArray) ++ t142) ++ (⟨#[46]⟩ : ByteArray)) ++ t143) ++ (⟨#[46]⟩ : ByteArray)) ++ t144) ++ ((⟨#[47]⟩ : ByteArray) ++ bt145.1), true)) else (none)) else (none)))) else (none))) else (none)) else (none))) else (none)) else (none)) else (if a0_0 = 1 then (if 1 + t142.size ≤ 9223372036854775807 then (if a0_4 = 7200 then (some ((⟨#[74]⟩ : ByteArray) ++ t142, true)) else ((rule_Clock.f k a0_4).bind fun bt147 => (if 1 + bt147.1.size ≤ 9223372036854775807 then (if 1 + t142.size + 1 + bt147.1.size ≤ 9223372036854775807 then (some (((⟨#[74]⟩ : ByteArray) ++ t142) ++ ((⟨#[47]⟩ : ByteArray) ++ bt147.1), true)) else (none)) else (none)))) else (none)) else (if a0_4 = 7200 then (some (t142, true)) else ((rule_Clock.f k a0_4).bind fun bt149 => (if 1 + bt149.1.size ≤ 9223372036854775807 then (if t142.size + 1 + bt149.1.size ≤ 9223372036854775807 then (some (t142 ++ ((⟨#[47]⟩ : ByteArray) ++ bt149.1), true)) else (none)) else (none))))))) else (some ((⟨#[]⟩ : ByteArray), false))) = some (r1, r2) := H
  have A2 := Aside0.mk A20
  clear A20
  by_cases c3 : t141 = true
  · subst c3
    have H1 : ((strconv_Itoa.f a0_1).bind fun t142 => (if a0_0 = 0 then (if 1 + t142.size ≤ 9223372036854775807 then (if 1 + t142.size + 1 ≤ 9223372036854775807 then ((strconv_Itoa.f a0_2).bind fun t143 => (if 1 + t142.size + 1 + t143.size ≤ 9223372036854775807 then (if 1 + t142.size + 1 + t143.size + 1 ≤ 9223372036854775807 then ((strconv_Itoa.f a0_3).bind fun t144 => (if 1 + t142.size + 1 + t143.size + 1 + t144.size ≤ 9223372036854775807 then (if a0_4 = 7200 then (some ((((((⟨#[77]⟩ : ByteArray) ++ t142) ++ (⟨#[46]⟩ : ByteArray)) ++ t143) ++ (⟨#[46]⟩ : ByteArray)) ++ t144, true)) else ((rule_Clock.f k a0_4).bind fun bt145 => (if 1 + bt145.1.size ≤ 9223372036854775807 then (if 1 + t142.size + 1 + t143.size + 1 + t144.size + 1 + bt145.1.size ≤ 9223372036854775807 then (some (((((((⟨#[77]⟩ : ByteArray) ++ t142) ++ (⟨#[46]⟩ : ByteArray)) ++ t143) ++ (⟨#[46]⟩ : ByteArray)) ++ t144) ++ ((⟨#[47]⟩ : ByteArray) ++ bt145.1), true)) else (none)) else (none)))) else (none))) else (none)) else (none))) else (none)) else (none)) else (if a0_0 = 1 then (if 1 + t142.size ≤ 9223372036854775807 then (if a0_4 = 7200 then (some ((⟨#[74]⟩ : ByteArray) ++ t142, true)) else ((rule_Clock.f k a0_4).bind fun bt147 => (if 1 + bt147.1.size ≤ 9223372036854775807 then (if 1 + t142.size + 1 + bt147.1.size ≤ 9223372036854775807 then (some (((⟨#[74]⟩ : ByteArray) ++ t142) ++ ((⟨#[47]⟩ : ByteArray) ++ bt147.1), true)) else (none)) else (none)))) else (none)) else (if a0_4 = 7200 then (some (t142, true)) else ((rule_Clock.f k a0_4).bind fun bt149 => (if 1 + bt149.1.size ≤ 9223372036854775807 then (if t142.size + 1 + bt149.1.size ≤ 9223372036854775807 then (some (t142 ++ ((⟨#[47]⟩ : ByteArray) ++ bt149.1), true)) else (none)) else (none))))))) = some (r1, r2) := by rw [if_pos rfl] at H; exact H
    clear H
    have H := H1
    clear H1
    replace H := Option.bind_eq_some_iff.mp H
    obtain ⟨t142, A40, H⟩ := H
    replace H : (if a0_0 = 0 then (if 1 + t142.size ≤ 9223372036854775807 then (if 1 + t142.size + 1 ≤ 9223372036854775807 then ((strconv_Itoa.f a0_2).bind fun t143 => (if 1 + t142.size + 1 + t143.size ≤ 9223372036854775807 then (if 1 + t142.size + 1 + t143.size + 1 ≤ 9223372036854775807 then ((strconv_Itoa.f a0_3).bind fun t144 => (if 1 + t142.size + 1 + t143.size + 1 + t144.size ≤ 9223372036854775807 then (if a0_4 = 7200 then (some ((((((⟨#[77]⟩ : ByteArray) ++ t142) ++ (⟨#[46]⟩ : ByteArray)) ++ t143) ++ (⟨#[46]⟩ : ByteArray)) ++ t144, true)) else ((rule_Clock.f k a0_4).bind fun bt145 => (if 1 + bt145.1.size ≤ 9223372036854775807 then (if 1 + t142.size + 1 + t143.size + 1 + t144.size + 1 + bt145.1.size ≤ 9223372036854775807 then (some (((((((⟨#[77]⟩ : ByteArray) ++ t142) ++ (⟨#[46]⟩ : ByteArray)) ++ t143) ++ (⟨#[46]⟩ : ByteArray)) ++ t144) ++ ((⟨#[47]⟩ : ByteArray) ++ bt145.1), true)) else (none)) else (none)))) else (none))) else (none)) else (none))) else (none)) else (none)) else (if a0_0 = 1 then (if 1 + t142.size ≤ 9223372036854775807 then (if a0_4 = 7200 then (some ((⟨#[74]⟩ : ByteArray) ++ t142, true)) else ((rule_Clock.f k a0_4).bind fun bt147 => (if 1 + bt147.1.size ≤ 9223372036854775807 then (if 1 + t142.size + 1 + bt147.1.size ≤ 9223372036854775807 then (some (((⟨#[74]⟩ : ByteArray) ++ t142) ++ ((⟨#[47]⟩ : ByteArray) ++ bt147.1), true)) else (none)) else (none)))) else (none)) else (if a0_4 = 7200 then (some (t142, true)) else ((rule_Clock.f k a0_4).bind fun bt149 => (if 1 + bt149.1.size ≤ 9223372036854775807 then (if t142.size + 1 + bt149.1.size ≤ 9223372036854775807 then (some (t142 ++ ((⟨#[47]⟩ : ByteArray) ++ bt149.1), true)) else (none)) else (none)))))) = some (r1, r2) := H
    have A4 := Aside0.mk A40
    clear A40
    by_cases c5 : a0_0 = 0
    · rw [if_pos c5] at H
      have c5b0 : (a0_0 == 0) = true := beq_iff_eq.mpr c5
      have c5b1 : (a0_0 != 0) = false := bne_eq_false_iff_eq.mpr c5
      clear c5
      by_cases c6 : 1 + t142.size ≤ 9223372036854775807
      · rw [if_pos c6] at H
        have c6b0 := eq_true c6
        have c6b1 : decide (1 + t142.size ≤ 9223372036854775807) = true := decide_eq_true c6
        try have c6b2 : (9223372036854775807 < 1 + t142.size) = False := eq_false (Nat.not_lt.2 c6)
        by_cases c7 : 1 + t142.size + 1 ≤ 9223372036854775807
        · rw [if_pos c7] at H
          have c7b0 := eq_true c7
          have c7b1 : decide (1 + t142.size + 1 ≤ 9223372036854775807) = true := decide_eq_true c7
          try have c7b2 : (9223372036854775807 < 1 + t142.size + 1) = False := eq_false (Nat.not_lt.2 c7)
          replace H := Option.bind_eq_some_iff.mp H
          obtain ⟨t143, A80, H⟩ := H
          replace H : (if 1 + t142.size + 1 + t143.size ≤ 9223372036854775807 then (if 1 + t142.size + 1 + t143.size + 1 ≤ 9223372036854775807 then ((strconv_Itoa.f a0_3).bind fun t144 => (if 1 + t142.size + 1 + t143.size + 1 + t144.size ≤ 9223372036854775807 then (if a0_4 = 7200 then (some ((((((⟨#[77]⟩ : ByteArray) ++ t142) ++ (⟨#[46]⟩ : ByteArray)) ++ t143) ++ (⟨#[46]⟩ : ByteArray)) ++ t144, true)) else ((rule_Clock.f k a0_4).bind fun bt145 => (if 1 + bt145.1.size ≤ 9223372036854775807 then (if 1 + t142.size + 1 + t143.size + 1 + t144.size + 1 + bt145.1.size ≤ 9223372036854775807 then (some (((((((⟨#[77]⟩ : ByteArray) ++ t142) ++ (⟨#[46]⟩ : ByteArray)) ++ t143) ++ (⟨#[46]⟩ : ByteArray)) ++ t144) ++ ((⟨#[47]⟩ : ByteArray) ++ bt145.1), true)) else (none)) else (none)))) else (none))) else (none)) else (none)) = some (r1, r2) := H
          have A8 := Aside0.mk A80
          clear A80
          by_cases c9 : 1 + t142.size + 1 + t143.size ≤ 9223372036854775807
          · rw [if_pos c9] at H
            have c9b0 := eq_true c9
            have c9b1 : decide (1 + t142.size + 1 + t143.size ≤ 9223372036854775807) = true := decide_eq_true c9
            try have c9b2 : (9223372036854775807 < 1 + t142.size + 1 + t143.size) = False := eq_false (Nat.not_lt.2 c9)
            by_cases c10 : 1 + t142.size + 1 + t143.size + 1 ≤ 9223372036854775807
            · rw [if_pos c10] at H
              have c10b0 := eq_true c10
              have c10b1 : decide (1 + t142.size + 1 + t143.size + 1 ≤ 9223372036854775807) = true := decide_eq_true c10
              try have c10b2 : (9223372036854775807 < 1 + t142.size + 1 + t143.size + 1) = False := eq_false (Nat.not_lt.2 c10)
              replace H := Option.bind_eq_some_iff.mp H
              obtain ⟨t144, A110, H⟩ := H
              replace H : (if 1 + t142.size + 1 + t143.size + 1 + t144.size ≤ 9223372036854775807 then (if a0_4 = 7200 then (some ((((((⟨#[77]⟩ : ByteArray) ++ t142) ++ (⟨#[46]⟩ : ByteArray)) ++ t143) ++ (⟨#[46]⟩ : ByteArray)) ++ t144, true)) else ((rule_Clock.f k a0_4).bind fun bt145 => (if 1 + bt145.1.size ≤ 9223372036854775807 then (if 1 + t142.size + 1 + t143.size + 1 + t144.size + 1 + bt145.1.size ≤ 9223372036854775807 then (some (((((((⟨#[77]⟩ : ByteArray) ++ t142) ++ (⟨#[46]⟩ : ByteArray)) ++ t143) ++ (⟨#[46]⟩ : ByteArray)) ++ t144) ++ ((⟨#[47]⟩ : ByteArray) ++ bt145.1), true)) else (none)) else (none)))) else (none)) = some (r1, r2) := H
              have A11 := Aside0.mk A110
              clear A110
              by_cases c12 : 1 + t142.size + 1 + t143.size + 1 + t144.size ≤ 9223372036854775807
              · rw [if_pos c12] at H
                have c12b0 := eq_true c12
                have c12b1 : decide (1 + t142.size + 1 + t143.size + 1 + t144.size ≤ 9223372036854775807) = true := decide_eq_true c12
                try have c12b2 : (9223372036854775807 < 1 + t142.size + 1 + t143.size + 1 + t144.size) = False := eq_false (Nat.not_lt.2 c12)
                by_cases c13 : a0_4 = 7200
                · rw [if_pos c13] at H
                  have c13b0 : (a0_4 == 7200) = true := beq_iff_eq.mpr c13
                  have c13b1 : (a0_4 != 7200) = false := bne_eq_false_iff_eq.mpr c13
                  clear c13
                  simp only [Option.some.injEq, Prod.mk.injEq] at H
                  obtain ⟨rfl, rfl⟩ := H
                  go_enter Tryd.func26, Tryd.ntmps26
                  try go_wp2_with (first | ((with_reducible refine gate_dst (N := 1) rfl ?_); refine box_event ?hg (N := 1) ?hd (cs := #[.int .i64 a0_0, .int .i64 a0_1, .int .i64 a0_2, .int .i64 a0_3, .int .i64 a0_4]) (t := 42) ?hr ?_; (case hd => rfl); (case hg => rfl); (case hr => first | (go_simp; done) | (go_simp; rfl)); intro gb140 hg w14 hbox hb; have n0_ := Aside0.mk (below_step (by repeat (first | (with_reducible first | exact HB.out | apply ba | apply bn | apply bd) | exact HB.out)) hb); have n1_ := Aside0.mk (hbox); have n2_ := Aside0.mk ((by rw [hg]; exact (below_size (by repeat (first | (with_reducible first | exact HB.out | apply ba | apply bn | apply bd) | exact HB.out))) : w.heap.size ≤ gb140)); have n3_ := Aside0.mk ((by rw [hg]; exact (below_size (by repeat (first | (with_reducible first | exact HB.out | apply ba | apply bn | apply bd) | exact HB.out))) : w.heap.size ≤ gb140)); clear HB; have HB := n0_; have BK140 := n1_; have GW140 := n2_; have GE140 := n3_; clear n0_ n1_ n2_ n3_; clear hb hbox hg; have hcz15_0 : w14.cell? ⟨gb140, 0, none⟩ = some (.int .i64 a0_0) := (blk_cell BK140.out 0).trans rfl; have hcz15_1 : w14.cell? ⟨gb140, 1, none⟩ = some (.int .i64 a0_1) := (blk_cell BK140.out 1).trans rfl; have hcz15_2 : w14.cell? ⟨gb140, 2, none⟩ = some (.int .i64 a0_2) := (blk_cell BK140.out 2).trans rfl; have hcz15_3 : w14.cell? ⟨gb140, 3, none⟩ = some (.int .i64 a0_3) := (blk_cell BK140.out 3).trans rfl; have hcz15_4 : w14.cell? ⟨gb140, 4, none⟩ = some (.int .i64 a0_4) := (blk_cell BK140.out 4).trans rfl; have hfz15_0 := blk_frozen BK140.out 0; have hfz15_1 := blk_frozen BK140.out 1; have hfz15_2 := blk_frozen BK140.out 2; have hfz15_3 := blk_frozen BK140.out 3; have hfz15_4 := blk_frozen BK140.out 4) | ((with_reducible refine gate_callee (f := 34) rfl ?_); refine goesL_ (some 8) rfl rfl Tryd.func34 (by kernel_rfl) rfl #[.agg #[.int .i64 a0_0, .int .i64 a0_1, .int .i64 a0_2, .int .i64 a0_3, .int .i64 a0_4]] rfl (by (try simp only [List.map_toArray, List.map_cons, List.map_nil]); first | done | rfl | (simp only [List.length_drop, List.length_take]; rfl)) ?_; (with_reducible refine (rule_Right.calls a0_0 a0_1 a0_2 a0_3 a0_4 true _ ?side716 A2.out).mono ?_); (case side716 => refine hG.below ?_; repeat (first | (with_reducible first | exact HB.out | apply below_alloc | apply pw_below_drewN | apply below_drew1 | refine below_set ?_ GE140.out) | exact HB.out)); rintro e w17 ⟨rfl, hb⟩; refine ⟨_, rfl, ?_⟩; have n0_ := Aside0.mk (blk_below (g := gb140) (o := .cells #[.int .i64 a0_0, .int .i64 a0_1, .int .i64 a0_2, .int .i64 a0_3, .int .i64 a0_4] 42 (0, 0)) (by (with_reducible repeat (first | refine blk_drewN ?_ _ | refine blk_drew ?_ | refine blk_alloc ?_ _)); exact BK140.out) hb); have n1_ := Aside0.mk (below_step (by repeat (first | (with_reducible first | exact HB.out | apply below_alloc | apply pw_below_drewN | apply below_drew1 | refine below_set ?_ GE140.out) | exact HB.out)) hb); clear BK140; clear HB; have BK140 := n0_; have HB := n1_; clear n0_ n1_; (try clear hb); have hcz18_0 : w17.cell? ⟨gb140, 0, none⟩ = some (.int .i64 a0_0) := (blk_cell BK140.out 0).trans rfl; have hcz18_1 : w17.cell? ⟨gb140, 1, none⟩ = some (.int .i64 a0_1) := (blk_cell BK140.out 1).trans rfl; have hcz18_2 : w17.cell? ⟨gb140, 2, none⟩ = some (.int .i64 a0_2) := (blk_cell BK140.out 2).trans rfl; have hcz18_3 : w17.cell? ⟨gb140, 3, none⟩ = some (.int .i64 a0_3) := (blk_cell BK140.out 3).trans rfl; have hcz18_4 : w17.cell? ⟨gb140, 4, none⟩ = some (.int .i64 a0_4) := (blk_cell BK140.out 4).trans rfl; have hfz18_0 := blk_frozen BK140.out 0; have hfz18_1 := blk_frozen BK140.out 1; have hfz18_2 := blk_frozen BK140.out 2; have hfz18_3 := blk_frozen BK140.out 3; have hfz18_4 := blk_frozen BK140.out 4) | ((with_reducible refine gate_callee (f := 41) rfl ?_); refine goesL_ (some 12) rfl rfl Tryd.func41 (by kernel_rfl) rfl #[.int .i64 a0_1] rfl (by (try simp only [List.map_toArray, List.map_cons, List.map_nil]); first | done | rfl | (simp only [List.length_drop, List.length_take]; rfl)) ?_; (with_reducible refine (strconv_Itoa.calls a0_1 t142 _ ?side719 A4.out).mono ?_); (case side719 => refine hG.below ?_; repeat (first | (with_reducible first | exact HB.out | apply below_alloc | apply pw_below_drewN | apply below_drew1 | refine below_set ?_ GE140.out) | exact HB.out)); rintro e w20 ⟨rfl, hb⟩; refine ⟨_, rfl, ?_⟩; have n0_ := Aside0.mk (blk_below (g := gb140) (o := .cells #[.int .i64 a0_0, .int .i64 a0_1, .int .i64 a0_2, .int .i64 a0_3, .int .i64 a0_4] 42 (0, 0)) (by (with_reducible repeat (first | refine blk_drewN ?_ _ | refine blk_drew ?_ | refine blk_alloc ?_ _)); exact BK140.out) hb); have n1_ := Aside0.mk (below_step (by repeat (first | (with_reducible first | exact HB.out | apply below_alloc | apply pw_below_drewN | apply below_drew1 | refine below_set ?_ GE140.out) | exact HB.out)) hb); clear BK140; clear HB; have BK140 := n0_; have HB := n1_; clear n0_ n1_; (try clear hb); have hcz21_0 : w20.cell? ⟨gb140, 0, none⟩ = some (.int .i64 a0_0) := (blk_cell BK140.out 0).trans rfl; have hcz21_1 : w20.cell? ⟨gb140, 1, none⟩ = some (.int .i64 a0_1) := (blk_cell BK140.out 1).trans rfl; have hcz21_2 : w20.cell? ⟨gb140, 2, none⟩ = some (.int .i64 a0_2) := (blk_cell BK140.out 2).trans rfl; have hcz21_3 : w20.cell? ⟨gb140, 3, none⟩ = some (.int .i64 a0_3) := (blk_cell BK140.out 3).trans rfl; have hcz21_4 : w20.cell? ⟨gb140, 4, none⟩ = some (.int .i64 a0_4) := (blk_cell BK140.out 4).trans rfl; have hfz21_0 := blk_frozen BK140.out 0; have hfz21_1 := blk_frozen BK140.out 1; have hfz21_2 := blk_frozen BK140.out 2; have hfz21_3 := blk_frozen BK140.out 3; have hfz21_4 := blk_frozen BK140.out 4))
                  have n0_ := Aside0.mk (blk_drew BK140.out)
                  have n1_ := Aside0.mk (below_drew1 HB.out)
                  clear BK140
                  clear HB
                  have BK140 := n0_
                  have HB := n1_
                  clear n0_ n1_
                  refine start_ (n := 13) (S := fun w' => w'.cell? ⟨gb140, 0, none⟩ = some (.int .i64 a0_0) ∧ w'.cell? ⟨gb140, 1, none⟩ = some (.int .i64 a0_1) ∧ w'.cell? ⟨gb140, 2, none⟩ = some (.int .i64 a0_2) ∧ w'.cell? ⟨gb140, 3, none⟩ = some (.int .i64 a0_3) ∧ w'.cell? ⟨gb140, 4, none⟩ = some (.int .i64 a0_4)) (ds := []) (bw 13 0) (by kernel_rfl) rfl rfl ⟨(blk_cell BK140.out 0).trans rfl, (blk_cell BK140.out 1).trans rfl, (blk_cell BK140.out 2).trans rfl, (blk_cell BK140.out 3).trans rfl, (blk_cell BK140.out 4).trans rfl⟩ (fun hHeld => ?_); refine with_tabW rule_Text.tab6 rule_Text.bits6 (fun HT_ HW_ => ?_)
                  generalize w20.drew = w22 at BK140 HB hHeld ⊢
                  refine pure_ (i := 0) (N := some 17) (v := ?_) (a' := ?_) (bw 13 1) rfl rfl (any_of HT_.out (by kernel_rfl)) (fun _ _ _ h => h) (Or.inl ⟨by rfl, ?_⟩) ?_ ?_
                  rotate_left
                  · intro w'
                    go_simp
                    with_reducible rfl
                  rotate_left
                  · simp only [Act.put, List.setIfInBounds_toArray, List.set_cons_zero, List.set_cons_succ, i64_w, i32_w]
                    rfl
                  refine pure_ (i := 1) (N := some 18) (v := ?_) (a' := ?_) (bw 13 3) rfl rfl (any_of HT_.out (by kernel_rfl)) (fun _ _ _ h => h) (Or.inl ⟨by rfl, ?_⟩) ?_ ?_
                  rotate_left
                  · intro w'
                    go_simp
                    with_reducible rfl
                  rotate_left
                  · simp only [Act.put, List.setIfInBounds_toArray, List.set_cons_zero, List.set_cons_succ, i64_w, i32_w]
                    rfl
                  refine pure_ (i := 2) (N := some 19) (v := ?_) (a' := ?_) (bw 13 7) rfl rfl (any_of HT_.out (by kernel_rfl)) (fun _ _ _ h => h) (Or.inl ⟨by rfl, ?_⟩) ?_ ?_
                  rotate_left
                  · intro w'
                    go_simp
                    with_reducible rfl
                  rotate_left
                  · simp only [Act.put, List.setIfInBounds_toArray, List.set_cons_zero, List.set_cons_succ, i64_w, i32_w]
                    rfl
                  refine pure_ (i := 3) (N := some 20) (v := ?_) (a' := ?_) (bw 13 15) rfl rfl (any_of HT_.out (by kernel_rfl)) (fun _ _ _ h => h) (Or.inl ⟨by rfl, ?_⟩) ?_ ?_
                  rotate_left
                  · intro w'
                    go_simp
                    with_reducible rfl
                  rotate_left
                  · simp only [Act.put, List.setIfInBounds_toArray, List.set_cons_zero, List.set_cons_succ, i64_w, i32_w]
                    rfl
                  refine pure_ (i := 8) (N := some 25) (v := ?_) (a' := ?_) (bw 13 271) rfl rfl (any_of HT_.out (by kernel_rfl)) (fun _ _ _ h => h) (Or.inl ⟨by rfl, ?_⟩) ?_ ?_
                  rotate_left
                  · intro w'
                    go_simp
                    with_reducible rfl
                  rotate_left
                  · simp only [Act.put, List.setIfInBounds_toArray, List.set_cons_zero, List.set_cons_succ, i64_w, i32_w]
                    rfl
                  refine take_ (i := 4) (N := some 21) (v := ?_) (a' := ?_) (bw 13 287) rfl rfl (take_ofW HT_.out HW_.out (by kernel_rfl)) (fun _ _ _ h => h) (Or.inl ⟨by rfl, ?_⟩) hHeld ?_ ?_
                  rotate_left
                  · rintro w' ⟨s0, s1, s2, s3, s4⟩
                    go_simp
                    with_reducible rfl
                  rotate_left
                  · simp only [Act.put, List.setIfInBounds_toArray, List.set_cons_zero, List.set_cons_succ, i64_w, i32_w]
                    rfl
                  refine take_ (i := 9) (N := some 26) (v := ?_) (a' := ?_) (bw 13 799) rfl rfl (take_ofW HT_.out HW_.out (by kernel_rfl)) (fun _ _ _ h => h) (Or.inl ⟨by rfl, ?_⟩) hHeld ?_ ?_
                  rotate_left
                  · rintro w' ⟨s0, s1, s2, s3, s4⟩
                    go_simp
                    with_reducible rfl
                  rotate_left
                  · simp only [Act.put, List.setIfInBounds_toArray, List.set_cons_zero, List.set_cons_succ, i64_w, i32_w]
                    rfl
                  refine one_ (i := 5) (N := some 22) (bw 13 831) rfl rfl (one_of HT_.out (by kernel_rfl)) (by decide) (fun K hK => ?_)
                  refine goes_ Tryd.func41 (by kernel_rfl) rfl #[.int .i64 a0_2] (by rfl) rfl rfl (by (try simp only [List.map_toArray, List.map_cons, List.map_nil]); first | done | rfl | (simp only [List.length_drop, List.length_take]; rfl)) ?_
                  with_reducible refine (strconv_Itoa.calls a0_2 t143 _ ?side723 A8.out).mono ?_
                  (case side723 => refine hG.below ?_; repeat (first | (with_reducible first | exact HB.out | apply below_alloc | apply pw_below_drewN | apply below_drew1 | refine below_set ?_ GE140.out) | exact HB.out))
                  rintro e w24 ⟨rfl, hb⟩
                  refine ⟨_, rfl, ?_⟩
                  have n0_ := Aside0.mk (blk_below (g := gb140) (o := .cells #[.int .i64 a0_0, .int .i64 a0_1, .int .i64 a0_2, .int .i64 a0_3, .int .i64 a0_4] 42 (0, 0)) (by (with_reducible repeat (first | refine blk_drewN ?_ _ | refine blk_drew ?_ | refine blk_alloc ?_ _)); exact BK140.out) hb)
                  have n1_ := Aside0.mk (below_step (by repeat (first | (with_reducible first | exact HB.out | apply below_alloc | apply pw_below_drewN | apply below_drew1 | refine below_set ?_ GE140.out) | exact HB.out)) hb)
                  clear BK140
                  clear HB
                  have BK140 := n0_
                  have HB := n1_
                  clear n0_ n1_
                  (try clear hb)
                  (try clear hb2)
                  (try clear hk)
                  (try clear hi)
                  refine hK.out _ _ ⟨(blk_cell BK140.out 0).trans rfl, (blk_cell BK140.out 1).trans rfl, (blk_cell BK140.out 2).trans rfl, (blk_cell BK140.out 3).trans rfl, (blk_cell BK140.out 4).trans rfl⟩ (fun hHeld => ?_)
                  clear hK K
                  refine norm_ (a' := ?_) ?_ ?_
                  rotate_left
                  · show Act.put _ (some 22) _ = _
                    simp only [Act.put, List.setIfInBounds_toArray, List.set_cons_zero, List.set_cons_succ, i64_w, i32_w]
                    rfl
                  refine pure_ (i := 6) (N := some 23) (v := ?_) (a' := ?_) (bw 13 895) rfl rfl (any_of HT_.out (by kernel_rfl)) (fun _ _ _ h => h) (Or.inl ⟨by rfl, ?_⟩) ?_ ?_
                  rotate_left
                  · intro w'
                    go_simp
                    with_reducible rfl
                  rotate_left
                  · simp only [Act.put, List.setIfInBounds_toArray, List.set_cons_zero, List.set_cons_succ, i64_w, i32_w]
                    rfl
                  refine pure_ (i := 7) (N := some 24) (v := ?_) (a' := ?_) (bw 13 1023) rfl rfl (any_of HT_.out (by kernel_rfl)) (fun _ _ _ h => h) (Or.inl ⟨by rfl, ?_⟩) ?_ ?_
                  rotate_left
                  · intro w'
                    go_simp
                    with_reducible rfl
                  rotate_left
                  · simp only [Act.put, List.setIfInBounds_toArray, List.set_cons_zero, List.set_cons_succ, i64_w, i32_w]
                    rfl
                  refine one_ (i := 10) (N := some 27) (bw 13 2047) rfl rfl (one_of HT_.out (by kernel_rfl)) (by decide) (fun K hK => ?_)
                  refine goes_ Tryd.func41 (by kernel_rfl) rfl #[.int .i64 a0_3] (by rfl) rfl rfl (by (try simp only [List.map_toArray, List.map_cons, List.map_nil]); first | done | rfl | (simp only [List.length_drop, List.length_take]; rfl)) ?_
                  with_reducible refine (strconv_Itoa.calls a0_3 t144 _ ?side725 A11.out).mono ?_
                  (case side725 => refine hG.below ?_; repeat (first | (with_reducible first | exact HB.out | apply below_alloc | apply pw_below_drewN | apply below_drew1 | refine below_set ?_ GE140.out) | exact HB.out))
                  rintro e w26 ⟨rfl, hb⟩
                  refine ⟨_, rfl, ?_⟩
                  have n0_ := Aside0.mk (blk_below (g := gb140) (o := .cells #[.int .i64 a0_0, .int .i64 a0_1, .int .i64 a0_2, .int .i64 a0_3, .int .i64 a0_4] 42 (0, 0)) (by (with_reducible repeat (first | refine blk_drewN ?_ _ | refine blk_drew ?_ | refine blk_alloc ?_ _)); exact BK140.out) hb)
                  have n1_ := Aside0.mk (below_step (by repeat (first | (with_reducible first | exact HB.out | apply below_alloc | apply pw_below_drewN | apply below_drew1 | refine below_set ?_ GE140.out) | exact HB.out)) hb)
                  clear BK140
                  clear HB
                  have BK140 := n0_
                  have HB := n1_
                  clear n0_ n1_
                  (try clear hb)
                  (try clear hb2)
                  (try clear hk)
                  (try clear hi)
                  refine hK.out _ _ ⟨(blk_cell BK140.out 0).trans rfl, (blk_cell BK140.out 1).trans rfl, (blk_cell BK140.out 2).trans rfl, (blk_cell BK140.out 3).trans rfl, (blk_cell BK140.out 4).trans rfl⟩ (fun hHeld => ?_)
                  clear hK K
                  refine norm_ (a' := ?_) ?_ ?_
                  rotate_left
                  · show Act.put _ (some 27) _ = _
                    simp only [Act.put, List.setIfInBounds_toArray, List.set_cons_zero, List.set_cons_succ, i64_w, i32_w]
                    rfl
                  refine pure_ (i := 11) (N := some 28) (v := ?_) (a' := ?_) (bw 13 4095) rfl rfl (any_of HT_.out (by kernel_rfl)) (fun _ _ _ h => h) (Or.inl ⟨by rfl, ?_⟩) ?_ ?_
                  rotate_left
                  · intro w'
                    go_simp
                    with_reducible rfl
                  rotate_left
                  · simp only [Act.put, List.setIfInBounds_toArray, List.set_cons_zero, List.set_cons_succ, i64_w, i32_w]
                    rfl
                  refine pure_ (i := 12) (N := some 4) (v := ?_) (a' := ?_) (bw 13 8191) rfl rfl (any_of HT_.out (by kernel_rfl)) (fun _ _ _ h => h) (Or.inl ⟨by rfl, ?_⟩) ?_ ?_
                  rotate_left
                  · intro w'
                    go_simp
                    with_reducible rfl
                  rotate_left
                  · simp only [Act.put, List.setIfInBounds_toArray, List.set_cons_zero, List.set_cons_succ, i64_w, i32_w]
                    rfl
                  refine done_ (done_of HT_.out (by kernel_rfl)) ?_
                  have hcz27_0 : w26.cell? ⟨gb140, 0, none⟩ = some (.int .i64 a0_0) := (blk_cell BK140.out 0).trans rfl
                  have hcz27_1 : w26.cell? ⟨gb140, 1, none⟩ = some (.int .i64 a0_1) := (blk_cell BK140.out 1).trans rfl
                  have hcz27_2 : w26.cell? ⟨gb140, 2, none⟩ = some (.int .i64 a0_2) := (blk_cell BK140.out 2).trans rfl
                  have hcz27_3 : w26.cell? ⟨gb140, 3, none⟩ = some (.int .i64 a0_3) := (blk_cell BK140.out 3).trans rfl
                  have hcz27_4 : w26.cell? ⟨gb140, 4, none⟩ = some (.int .i64 a0_4) := (blk_cell BK140.out 4).trans rfl
                  have hfz27_0 := blk_frozen BK140.out 0
                  have hfz27_1 := blk_frozen BK140.out 1
                  have hfz27_2 := blk_frozen BK140.out 2
                  have hfz27_3 := blk_frozen BK140.out 3
                  have hfz27_4 := blk_frozen BK140.out 4
                  try go_wp2
                  go_ret2
                  exact ⟨by first | rfl | (simp [errW_none, errW_some] <;> rfl) | (simp [*, errW_none, errW_some] <;> rfl), by repeat (first | (with_reducible first | exact HB.out | apply below_alloc | apply pw_below_drewN | apply below_drew1 | refine below_set ?_ GE140.out) | exact HB.out)⟩
                · rw [if_neg c13] at H
                  have c13b0 : (a0_4 == 7200) = false := beq_eq_false_iff_ne.mpr c13
                  have c13b1 : (a0_4 != 7200) = true := bne_iff_ne.mpr c13
                  replace H := Option.bind_eq_some_iff.mp H
                  obtain ⟨⟨t145, t146⟩, A280, H⟩ := H
                  replace H : (if 1 + t145.size ≤ 9223372036854775807 then (if 1 + t142.size + 1 + t143.size + 1 + t144.size + 1 + t145.size ≤ 9223372036854775807 then (some (((((((⟨#[77]⟩ : ByteArray) ++ t142) ++ (⟨#[46]⟩ : ByteArray)) ++ t143) ++ (⟨#[46]⟩ : ByteArray)) ++ t144) ++ ((⟨#[47]⟩ : ByteArray) ++ t145), true)) else (none)) else (none)) = some (r1, r2) := H
                  have A28 := Aside0.mk A280
                  clear A280
                  by_cases c29 : 1 + t145.size ≤ 9223372036854775807
                  · rw [if_pos c29] at H
                    have c29b0 := eq_true c29
                    have c29b1 : decide (1 + t145.size ≤ 9223372036854775807) = true := decide_eq_true c29
                    try have c29b2 : (9223372036854775807 < 1 + t145.size) = False := eq_false (Nat.not_lt.2 c29)
                    by_cases c30 : 1 + t142.size + 1 + t143.size + 1 + t144.size + 1 + t145.size ≤ 9223372036854775807
                    · rw [if_pos c30] at H
                      have c30b0 := eq_true c30
                      have c30b1 : decide (1 + t142.size + 1 + t143.size + 1 + t144.size + 1 + t145.size ≤ 9223372036854775807) = true := decide_eq_true c30
                      try have c30b2 : (9223372036854775807 < 1 + t142.size + 1 + t143.size + 1 + t144.size + 1 + t145.size) = False := eq_false (Nat.not_lt.2 c30)
                      simp only [Option.some.injEq, Prod.mk.injEq] at H
                      obtain ⟨rfl, rfl⟩ := H
                      go_enter Tryd.func26, Tryd.ntmps26
                      try go_wp2_with (first | ((with_reducible refine gate_dst (N := 1) rfl ?_); refine box_event ?hg (N := 1) ?hd (cs := #[.int .i64 a0_0, .int .i64 a0_1, .int .i64 a0_2, .int .i64 a0_3, .int .i64 a0_4]) (t := 42) ?hr ?_; (case hd => rfl); (case hg => rfl); (case hr => first | (go_simp; done) | (go_simp; rfl)); intro gb140 hg w31 hbox hb; have n0_ := Aside0.mk (below_step (by repeat (first | (with_reducible first | exact HB.out | apply ba | apply bn | apply bd) | exact HB.out)) hb); have n1_ := Aside0.mk (hbox); have n2_ := Aside0.mk ((by rw [hg]; exact (below_size (by repeat (first | (with_reducible first | exact HB.out | apply ba | apply bn | apply bd) | exact HB.out))) : w.heap.size ≤ gb140)); have n3_ := Aside0.mk ((by rw [hg]; exact (below_size (by repeat (first | (with_reducible first | exact HB.out | apply ba | apply bn | apply bd) | exact HB.out))) : w.heap.size ≤ gb140)); clear HB; have HB := n0_; have BK140 := n1_; have GW140 := n2_; have GE140 := n3_; clear n0_ n1_ n2_ n3_; clear hb hbox hg; have hcz32_0 : w31.cell? ⟨gb140, 0, none⟩ = some (.int .i64 a0_0) := (blk_cell BK140.out 0).trans rfl; have hcz32_1 : w31.cell? ⟨gb140, 1, none⟩ = some (.int .i64 a0_1) := (blk_cell BK140.out 1).trans rfl; have hcz32_2 : w31.cell? ⟨gb140, 2, none⟩ = some (.int .i64 a0_2) := (blk_cell BK140.out 2).trans rfl; have hcz32_3 : w31.cell? ⟨gb140, 3, none⟩ = some (.int .i64 a0_3) := (blk_cell BK140.out 3).trans rfl; have hcz32_4 : w31.cell? ⟨gb140, 4, none⟩ = some (.int .i64 a0_4) := (blk_cell BK140.out 4).trans rfl; have hfz32_0 := blk_frozen BK140.out 0; have hfz32_1 := blk_frozen BK140.out 1; have hfz32_2 := blk_frozen BK140.out 2; have hfz32_3 := blk_frozen BK140.out 3; have hfz32_4 := blk_frozen BK140.out 4) | ((with_reducible refine gate_callee (f := 34) rfl ?_); refine goesL_ (some 8) rfl rfl Tryd.func34 (by kernel_rfl) rfl #[.agg #[.int .i64 a0_0, .int .i64 a0_1, .int .i64 a0_2, .int .i64 a0_3, .int .i64 a0_4]] rfl (by (try simp only [List.map_toArray, List.map_cons, List.map_nil]); first | done | rfl | (simp only [List.length_drop, List.length_take]; rfl)) ?_; (with_reducible refine (rule_Right.calls a0_0 a0_1 a0_2 a0_3 a0_4 true _ ?side733 A2.out).mono ?_); (case side733 => refine hG.below ?_; repeat (first | (with_reducible first | exact HB.out | apply below_alloc | apply pw_below_drewN | apply below_drew1 | refine below_set ?_ GE140.out) | exact HB.out)); rintro e w34 ⟨rfl, hb⟩; refine ⟨_, rfl, ?_⟩; have n0_ := Aside0.mk (blk_below (g := gb140) (o := .cells #[.int .i64 a0_0, .int .i64 a0_1, .int .i64 a0_2, .int .i64 a0_3, .int .i64 a0_4] 42 (0, 0)) (by (with_reducible repeat (first | refine blk_drewN ?_ _ | refine blk_drew ?_ | refine blk_alloc ?_ _)); exact BK140.out) hb); have n1_ := Aside0.mk (below_step (by repeat (first | (with_reducible first | exact HB.out | apply below_alloc | apply pw_below_drewN | apply below_drew1 | refine below_set ?_ GE140.out) | exact HB.out)) hb); clear BK140; clear HB; have BK140 := n0_; have HB := n1_; clear n0_ n1_; (try clear hb); have hcz35_0 : w34.cell? ⟨gb140, 0, none⟩ = some (.int .i64 a0_0) := (blk_cell BK140.out 0).trans rfl; have hcz35_1 : w34.cell? ⟨gb140, 1, none⟩ = some (.int .i64 a0_1) := (blk_cell BK140.out 1).trans rfl; have hcz35_2 : w34.cell? ⟨gb140, 2, none⟩ = some (.int .i64 a0_2) := (blk_cell BK140.out 2).trans rfl; have hcz35_3 : w34.cell? ⟨gb140, 3, none⟩ = some (.int .i64 a0_3) := (blk_cell BK140.out 3).trans rfl; have hcz35_4 : w34.cell? ⟨gb140, 4, none⟩ = some (.int .i64 a0_4) := (blk_cell BK140.out 4).trans rfl; have hfz35_0 := blk_frozen BK140.out 0; have hfz35_1 := blk_frozen BK140.out 1; have hfz35_2 := blk_frozen BK140.out 2; have hfz35_3 := blk_frozen BK140.out 3; have hfz35_4 := blk_frozen BK140.out 4) | ((with_reducible refine gate_callee (f := 41) rfl ?_); refine goesL_ (some 12) rfl rfl Tryd.func41 (by kernel_rfl) rfl #[.int .i64 a0_1] rfl (by (try simp only [List.map_toArray, List.map_cons, List.map_nil]); first | done | rfl | (simp only [List.length_drop, List.length_take]; rfl)) ?_; (with_reducible refine (strconv_Itoa.calls a0_1 t142 _ ?side736 A4.out).mono ?_); (case side736 => refine hG.below ?_; repeat (first | (with_reducible first | exact HB.out | apply below_alloc | apply pw_below_drewN | apply below_drew1 | refine below_set ?_ GE140.out) | exact HB.out)); rintro e w37 ⟨rfl, hb⟩; refine ⟨_, rfl, ?_⟩; have n0_ := Aside0.mk (blk_below (g := gb140) (o := .cells #[.int .i64 a0_0, .int .i64 a0_1, .int .i64 a0_2, .int .i64 a0_3, .int .i64 a0_4] 42 (0, 0)) (by (with_reducible repeat (first | refine blk_drewN ?_ _ | refine blk_drew ?_ | refine blk_alloc ?_ _)); exact BK140.out) hb); have n1_ := Aside0.mk (below_step (by repeat (first | (with_reducible first | exact HB.out | apply below_alloc | apply pw_below_drewN | apply below_drew1 | refine below_set ?_ GE140.out) | exact HB.out)) hb); clear BK140; clear HB; have BK140 := n0_; have HB := n1_; clear n0_ n1_; (try clear hb); have hcz38_0 : w37.cell? ⟨gb140, 0, none⟩ = some (.int .i64 a0_0) := (blk_cell BK140.out 0).trans rfl; have hcz38_1 : w37.cell? ⟨gb140, 1, none⟩ = some (.int .i64 a0_1) := (blk_cell BK140.out 1).trans rfl; have hcz38_2 : w37.cell? ⟨gb140, 2, none⟩ = some (.int .i64 a0_2) := (blk_cell BK140.out 2).trans rfl; have hcz38_3 : w37.cell? ⟨gb140, 3, none⟩ = some (.int .i64 a0_3) := (blk_cell BK140.out 3).trans rfl; have hcz38_4 : w37.cell? ⟨gb140, 4, none⟩ = some (.int .i64 a0_4) := (blk_cell BK140.out 4).trans rfl; have hfz38_0 := blk_frozen BK140.out 0; have hfz38_1 := blk_frozen BK140.out 1; have hfz38_2 := blk_frozen BK140.out 2; have hfz38_3 := blk_frozen BK140.out 3; have hfz38_4 := blk_frozen BK140.out 4))
                      have n0_ := Aside0.mk (blk_drew BK140.out)
                      have n1_ := Aside0.mk (below_drew1 HB.out)
                      clear BK140
                      clear HB
                      have BK140 := n0_
                      have HB := n1_
                      clear n0_ n1_
                      refine start_ (n := 13) (S := fun w' => w'.cell? ⟨gb140, 0, none⟩ = some (.int .i64 a0_0) ∧ w'.cell? ⟨gb140, 1, none⟩ = some (.int .i64 a0_1) ∧ w'.cell? ⟨gb140, 2, none⟩ = some (.int .i64 a0_2) ∧ w'.cell? ⟨gb140, 3, none⟩ = some (.int .i64 a0_3) ∧ w'.cell? ⟨gb140, 4, none⟩ = some (.int .i64 a0_4)) (ds := []) (bw 13 0) (by kernel_rfl) rfl rfl ⟨(blk_cell BK140.out 0).trans rfl, (blk_cell BK140.out 1).trans rfl, (blk_cell BK140.out 2).trans rfl, (blk_cell BK140.out 3).trans rfl, (blk_cell BK140.out 4).trans rfl⟩ (fun hHeld => ?_); refine with_tabW rule_Text.tab6 rule_Text.bits6 (fun HT_ HW_ => ?_)
                      generalize w37.drew = w39 at BK140 HB hHeld ⊢
                      refine pure_ (i := 0) (N := some 17) (v := ?_) (a' := ?_) (bw 13 1) rfl rfl (any_of HT_.out (by kernel_rfl)) (fun _ _ _ h => h) (Or.inl ⟨by rfl, ?_⟩) ?_ ?_
                      rotate_left
                      · intro w'
                        go_simp
                        with_reducible rfl
                      rotate_left
                      · simp only [Act.put, List.setIfInBounds_toArray, List.set_cons_zero, List.set_cons_succ, i64_w, i32_w]
                        rfl
                      refine pure_ (i := 1) (N := some 18) (v := ?_) (a' := ?_) (bw 13 3) rfl rfl (any_of HT_.out (by kernel_rfl)) (fun _ _ _ h => h) (Or.inl ⟨by rfl, ?_⟩) ?_ ?_
                      rotate_left
                      · intro w'
                        go_simp
                        with_reducible rfl
                      rotate_left
                      · simp only [Act.put, List.setIfInBounds_toArray, List.set_cons_zero, List.set_cons_succ, i64_w, i32_w]
                        rfl
                      refine pure_ (i := 2) (N := some 19) (v := ?_) (a' := ?_) (bw 13 7) rfl rfl (any_of HT_.out (by kernel_rfl)) (fun _ _ _ h => h) (Or.inl ⟨by rfl, ?_⟩) ?_ ?_
                      rotate_left
                      · intro w'
                        go_simp
                        with_reducible rfl
                      rotate_left
                      · simp only [Act.put, List.setIfInBounds_toArray, List.set_cons_zero, List.set_cons_succ, i64_w, i32_w]
                        rfl
                      refine pure_ (i := 3) (N := some 20) (v := ?_) (a' := ?_) (bw 13 15) rfl rfl (any_of HT_.out (by kernel_rfl)) (fun _ _ _ h => h) (Or.inl ⟨by rfl, ?_⟩) ?_ ?_
                      rotate_left
                      · intro w'
                        go_simp
                        with_reducible rfl
                      rotate_left
                      · simp only [Act.put, List.setIfInBounds_toArray, List.set_cons_zero, List.set_cons_succ, i64_w, i32_w]
                        rfl
                      refine pure_ (i := 8) (N := some 25) (v := ?_) (a' := ?_) (bw 13 271) rfl rfl (any_of HT_.out (by kernel_rfl)) (fun _ _ _ h => h) (Or.inl ⟨by rfl, ?_⟩) ?_ ?_
                      rotate_left
                      · intro w'
                        go_simp
                        with_reducible rfl
                      rotate_left
                      · simp only [Act.put, List.setIfInBounds_toArray, List.set_cons_zero, List.set_cons_succ, i64_w, i32_w]
                        rfl
                      refine take_ (i := 4) (N := some 21) (v := ?_) (a' := ?_) (bw 13 287) rfl rfl (take_ofW HT_.out HW_.out (by kernel_rfl)) (fun _ _ _ h => h) (Or.inl ⟨by rfl, ?_⟩) hHeld ?_ ?_
                      rotate_left
                      · rintro w' ⟨s0, s1, s2, s3, s4⟩
                        go_simp
                        with_reducible rfl
                      rotate_left
                      · simp only [Act.put, List.setIfInBounds_toArray, List.set_cons_zero, List.set_cons_succ, i64_w, i32_w]
                        rfl
                      refine take_ (i := 9) (N := some 26) (v := ?_) (a' := ?_) (bw 13 799) rfl rfl (take_ofW HT_.out HW_.out (by kernel_rfl)) (fun _ _ _ h => h) (Or.inl ⟨by rfl, ?_⟩) hHeld ?_ ?_
                      rotate_left
                      · rintro w' ⟨s0, s1, s2, s3, s4⟩
                        go_simp
                        with_reducible rfl
                      rotate_left
                      · simp only [Act.put, List.setIfInBounds_toArray, List.set_cons_zero, List.set_cons_succ, i64_w, i32_w]
                        rfl
                      refine one_ (i := 5) (N := some 22) (bw 13 831) rfl rfl (one_of HT_.out (by kernel_rfl)) (by decide) (fun K hK => ?_)
                      refine goes_ Tryd.func41 (by kernel_rfl) rfl #[.int .i64 a0_2] (by rfl) rfl rfl (by (try simp only [List.map_toArray, List.map_cons, List.map_nil]); first | done | rfl | (simp only [List.length_drop, List.length_take]; rfl)) ?_
                      with_reducible refine (strconv_Itoa.calls a0_2 t143 _ ?side740 A8.out).mono ?_
                      (case side740 => refine hG.below ?_; repeat (first | (with_reducible first | exact HB.out | apply below_alloc | apply pw_below_drewN | apply below_drew1 | refine below_set ?_ GE140.out) | exact HB.out))
                      rintro e w41 ⟨rfl, hb⟩
                      refine ⟨_, rfl, ?_⟩
                      have n0_ := Aside0.mk (blk_below (g := gb140) (o := .cells #[.int .i64 a0_0, .int .i64 a0_1, .int .i64 a0_2, .int .i64 a0_3, .int .i64 a0_4] 42 (0, 0)) (by (with_reducible repeat (first | refine blk_drewN ?_ _ | refine blk_drew ?_ | refine blk_alloc ?_ _)); exact BK140.out) hb)
                      have n1_ := Aside0.mk (below_step (by repeat (first | (with_reducible first | exact HB.out | apply below_alloc | apply pw_below_drewN | apply below_drew1 | refine below_set ?_ GE140.out) | exact HB.out)) hb)
                      clear BK140
                      clear HB
                      have BK140 := n0_
                      have HB := n1_
                      clear n0_ n1_
                      (try clear hb)
                      (try clear hb2)
                      (try clear hk)
                      (try clear hi)
                      refine hK.out _ _ ⟨(blk_cell BK140.out 0).trans rfl, (blk_cell BK140.out 1).trans rfl, (blk_cell BK140.out 2).trans rfl, (blk_cell BK140.out 3).trans rfl, (blk_cell BK140.out 4).trans rfl⟩ (fun hHeld => ?_)
                      clear hK K
                      refine norm_ (a' := ?_) ?_ ?_
                      rotate_left
                      · show Act.put _ (some 22) _ = _
                        simp only [Act.put, List.setIfInBounds_toArray, List.set_cons_zero, List.set_cons_succ, i64_w, i32_w]
                        rfl
                      refine pure_ (i := 6) (N := some 23) (v := ?_) (a' := ?_) (bw 13 895) rfl rfl (any_of HT_.out (by kernel_rfl)) (fun _ _ _ h => h) (Or.inl ⟨by rfl, ?_⟩) ?_ ?_
                      rotate_left
                      · intro w'
                        go_simp
                        with_reducible rfl
                      rotate_left
                      · simp only [Act.put, List.setIfInBounds_toArray, List.set_cons_zero, List.set_cons_succ, i64_w, i32_w]
                        rfl
                      refine pure_ (i := 7) (N := some 24) (v := ?_) (a' := ?_) (bw 13 1023) rfl rfl (any_of HT_.out (by kernel_rfl)) (fun _ _ _ h => h) (Or.inl ⟨by rfl, ?_⟩) ?_ ?_
                      rotate_left
                      · intro w'
                        go_simp
                        with_reducible rfl
                      rotate_left
                      · simp only [Act.put, List.setIfInBounds_toArray, List.set_cons_zero, List.set_cons_succ, i64_w, i32_w]
                        rfl
                      refine one_ (i := 10) (N := some 27) (bw 13 2047) rfl rfl (one_of HT_.out (by kernel_rfl)) (by decide) (fun K hK => ?_)
                      refine goes_ Tryd.func41 (by kernel_rfl) rfl #[.int .i64 a0_3] (by rfl) rfl rfl (by (try simp only [List.map_toArray, List.map_cons, List.map_nil]); first | done | rfl | (simp only [List.length_drop, List.length_take]; rfl)) ?_
                      with_reducible refine (strconv_Itoa.calls a0_3 t144 _ ?side742 A11.out).mono ?_
                      (case side742 => refine hG.below ?_; repeat (first | (with_reducible first | exact HB.out | apply below_alloc | apply pw_below_drewN | apply below_drew1 | refine below_set ?_ GE140.out) | exact HB.out))
                      rintro e w43 ⟨rfl, hb⟩
                      refine ⟨_, rfl, ?_⟩
                      have n0_ := Aside0.mk (blk_below (g := gb140) (o := .cells #[.int .i64 a0_0, .int .i64 a0_1, .int .i64 a0_2, .int .i64 a0_3, .int .i64 a0_4] 42 (0, 0)) (by (with_reducible repeat (first | refine blk_drewN ?_ _ | refine blk_drew ?_ | refine blk_alloc ?_ _)); exact BK140.out) hb)
                      have n1_ := Aside0.mk (below_step (by repeat (first | (with_reducible first | exact HB.out | apply below_alloc | apply pw_below_drewN | apply below_drew1 | refine below_set ?_ GE140.out) | exact HB.out)) hb)
                      clear BK140
                      clear HB
                      have BK140 := n0_
                      have HB := n1_
                      clear n0_ n1_
                      (try clear hb)
                      (try clear hb2)
                      (try clear hk)
                      (try clear hi)
                      refine hK.out _ _ ⟨(blk_cell BK140.out 0).trans rfl, (blk_cell BK140.out 1).trans rfl, (blk_cell BK140.out 2).trans rfl, (blk_cell BK140.out 3).trans rfl, (blk_cell BK140.out 4).trans rfl⟩ (fun hHeld => ?_)
                      clear hK K
                      refine norm_ (a' := ?_) ?_ ?_
                      rotate_left
                      · show Act.put _ (some 27) _ = _
                        simp only [Act.put, List.setIfInBounds_toArray, List.set_cons_zero, List.set_cons_succ, i64_w, i32_w]
                        rfl
                      refine pure_ (i := 11) (N := some 28) (v := ?_) (a' := ?_) (bw 13 4095) rfl rfl (any_of HT_.out (by kernel_rfl)) (fun _ _ _ h => h) (Or.inl ⟨by rfl, ?_⟩) ?_ ?_
                      rotate_left
                      · intro w'
                        go_simp
                        with_reducible rfl
                      rotate_left
                      · simp only [Act.put, List.setIfInBounds_toArray, List.set_cons_zero, List.set_cons_succ, i64_w, i32_w]
                        rfl
                      refine pure_ (i := 12) (N := some 4) (v := ?_) (a' := ?_) (bw 13 8191) rfl rfl (any_of HT_.out (by kernel_rfl)) (fun _ _ _ h => h) (Or.inl ⟨by rfl, ?_⟩) ?_ ?_
                      rotate_left
                      · intro w'
                        go_simp
                        with_reducible rfl
                      rotate_left
                      · simp only [Act.put, List.setIfInBounds_toArray, List.set_cons_zero, List.set_cons_succ, i64_w, i32_w]
                        rfl
                      refine done_ (done_of HT_.out (by kernel_rfl)) ?_
                      have hcz44_0 : w43.cell? ⟨gb140, 0, none⟩ = some (.int .i64 a0_0) := (blk_cell BK140.out 0).trans rfl
                      have hcz44_1 : w43.cell? ⟨gb140, 1, none⟩ = some (.int .i64 a0_1) := (blk_cell BK140.out 1).trans rfl
                      have hcz44_2 : w43.cell? ⟨gb140, 2, none⟩ = some (.int .i64 a0_2) := (blk_cell BK140.out 2).trans rfl
                      have hcz44_3 : w43.cell? ⟨gb140, 3, none⟩ = some (.int .i64 a0_3) := (blk_cell BK140.out 3).trans rfl
                      have hcz44_4 : w43.cell? ⟨gb140, 4, none⟩ = some (.int .i64 a0_4) := (blk_cell BK140.out 4).trans rfl
                      have hfz44_0 := blk_frozen BK140.out 0
                      have hfz44_1 := blk_frozen BK140.out 1
                      have hfz44_2 := blk_frozen BK140.out 2
                      have hfz44_3 := blk_frozen BK140.out 3
                      have hfz44_4 := blk_frozen BK140.out 4
                      try go_wp2_with (first | ((with_reducible refine gate_callee (f := 22) rfl ?_); refine goesL_ (some 39) rfl rfl Tryd.func22 (by kernel_rfl) rfl #[.int .i64 a0_4] rfl (by (try simp only [List.map_toArray, List.map_cons, List.map_nil]); first | done | rfl | (simp only [List.length_drop, List.length_take]; rfl)) ?_; (with_reducible refine (rule_Clock.calls k a0_4 t145 t146 _ ?side745 A28.out).mono ?_); (case side745 => refine hG.below ?_; repeat (first | (with_reducible first | exact HB.out | apply below_alloc | apply pw_below_drewN | apply below_drew1 | refine below_set ?_ GE140.out) | exact HB.out)); rintro e w46 ⟨rfl, hb⟩; refine ⟨_, rfl, ?_⟩; have n0_ := Aside0.mk (blk_below (g := gb140) (o := .cells #[.int .i64 a0_0, .int .i64 a0_1, .int .i64 a0_2, .int .i64 a0_3, .int .i64 a0_4] 42 (0, 0)) (by (with_reducible repeat (first | refine blk_drewN ?_ _ | refine blk_drew ?_ | refine blk_alloc ?_ _)); exact BK140.out) hb); have n1_ := Aside0.mk (below_step (by repeat (first | (with_reducible first | exact HB.out | apply below_alloc | apply pw_below_drewN | apply below_drew1 | refine below_set ?_ GE140.out) | exact HB.out)) hb); clear BK140; clear HB; have BK140 := n0_; have HB := n1_; clear n0_ n1_; (try clear hb)))
                      go_ret2
                      exact ⟨by first | rfl | (simp [errW_none, errW_some] <;> rfl) | (simp [*, errW_none, errW_some] <;> rfl), by repeat (first | (with_reducible first | exact HB.out | apply below_alloc | apply pw_below_drewN | apply below_drew1 | refine below_set ?_ GE140.out) | exact HB.out)⟩
                    · rw [if_neg c30] at H
                      exact absurd H (by simp)
                  · rw [if_neg c29] at H
                    exact absurd H (by simp)
              · rw [if_neg c12] at H
                exact absurd H (by simp)
            · rw [if_neg c10] at H
              exact absurd H (by simp)
          · rw [if_neg c9] at H
            exact absurd H (by simp)
        · rw [if_neg c7] at H
          exact absurd H (by simp)
      · rw [if_neg c6] at H
        exact absurd H (by simp)
    · rw [if_neg c5] at H
      have c5b0 : (a0_0 == 0) = false := beq_eq_false_iff_ne.mpr c5
      have c5b1 : (a0_0 != 0) = true := bne_iff_ne.mpr c5
      by_cases c47 : a0_0 = 1
      · rw [if_pos c47] at H
        have c47b0 : (a0_0 == 1) = true := beq_iff_eq.mpr c47
        have c47b1 : (a0_0 != 1) = false := bne_eq_false_iff_eq.mpr c47
        clear c47
        by_cases c48 : 1 + t142.size ≤ 9223372036854775807
        · rw [if_pos c48] at H
          have c48b0 := eq_true c48
          have c48b1 : decide (1 + t142.size ≤ 9223372036854775807) = true := decide_eq_true c48
          try have c48b2 : (9223372036854775807 < 1 + t142.size) = False := eq_false (Nat.not_lt.2 c48)
          by_cases c49 : a0_4 = 7200
          · rw [if_pos c49] at H
            have c49b0 : (a0_4 == 7200) = true := beq_iff_eq.mpr c49
            have c49b1 : (a0_4 != 7200) = false := bne_eq_false_iff_eq.mpr c49
            clear c49
            simp only [Option.some.injEq, Prod.mk.injEq] at H
            obtain ⟨rfl, rfl⟩ := H
            go_enter Tryd.func26, Tryd.ntmps26
            go_wp2_with (first | ((with_reducible refine gate_dst (N := 1) rfl ?_); refine box_event ?hg (N := 1) ?hd (cs := #[.int .i64 a0_0, .int .i64 a0_1, .int .i64 a0_2, .int .i64 a0_3, .int .i64 a0_4]) (t := 42) ?hr ?_; (case hd => rfl); (case hg => rfl); (case hr => first | (go_simp; done) | (go_simp; rfl)); intro gb140 hg w50 hbox hb; have n0_ := Aside0.mk (below_step (by repeat (first | (with_reducible first | exact HB.out | apply ba | apply bn | apply bd) | exact HB.out)) hb); have n1_ := Aside0.mk (hbox); have n2_ := Aside0.mk ((by rw [hg]; exact (below_size (by repeat (first | (with_reducible first | exact HB.out | apply ba | apply bn | apply bd) | exact HB.out))) : w.heap.size ≤ gb140)); have n3_ := Aside0.mk ((by rw [hg]; exact (below_size (by repeat (first | (with_reducible first | exact HB.out | apply ba | apply bn | apply bd) | exact HB.out))) : w.heap.size ≤ gb140)); clear HB; have HB := n0_; have BK140 := n1_; have GW140 := n2_; have GE140 := n3_; clear n0_ n1_ n2_ n3_; clear hb hbox hg; have hcz51_0 : w50.cell? ⟨gb140, 0, none⟩ = some (.int .i64 a0_0) := (blk_cell BK140.out 0).trans rfl; have hcz51_1 : w50.cell? ⟨gb140, 1, none⟩ = some (.int .i64 a0_1) := (blk_cell BK140.out 1).trans rfl; have hcz51_2 : w50.cell? ⟨gb140, 2, none⟩ = some (.int .i64 a0_2) := (blk_cell BK140.out 2).trans rfl; have hcz51_3 : w50.cell? ⟨gb140, 3, none⟩ = some (.int .i64 a0_3) := (blk_cell BK140.out 3).trans rfl; have hcz51_4 : w50.cell? ⟨gb140, 4, none⟩ = some (.int .i64 a0_4) := (blk_cell BK140.out 4).trans rfl; have hfz51_0 := blk_frozen BK140.out 0; have hfz51_1 := blk_frozen BK140.out 1; have hfz51_2 := blk_frozen BK140.out 2; have hfz51_3 := blk_frozen BK140.out 3; have hfz51_4 := blk_frozen BK140.out 4) | ((with_reducible refine gate_callee (f := 34) rfl ?_); refine goesL_ (some 8) rfl rfl Tryd.func34 (by kernel_rfl) rfl #[.agg #[.int .i64 a0_0, .int .i64 a0_1, .int .i64 a0_2, .int .i64 a0_3, .int .i64 a0_4]] rfl (by (try simp only [List.map_toArray, List.map_cons, List.map_nil]); first | done | rfl | (simp only [List.length_drop, List.length_take]; rfl)) ?_; (with_reducible refine (rule_Right.calls a0_0 a0_1 a0_2 a0_3 a0_4 true _ ?side752 A2.out).mono ?_); (case side752 => refine hG.below ?_; repeat (first | (with_reducible first | exact HB.out | apply below_alloc | apply pw_below_drewN | apply below_drew1 | refine below_set ?_ GE140.out) | exact HB.out)); rintro e w53 ⟨rfl, hb⟩; refine ⟨_, rfl, ?_⟩; have n0_ := Aside0.mk (blk_below (g := gb140) (o := .cells #[.int .i64 a0_0, .int .i64 a0_1, .int .i64 a0_2, .int .i64 a0_3, .int .i64 a0_4] 42 (0, 0)) (by (with_reducible repeat (first | refine blk_drewN ?_ _ | refine blk_drew ?_ | refine blk_alloc ?_ _)); exact BK140.out) hb); have n1_ := Aside0.mk (below_step (by repeat (first | (with_reducible first | exact HB.out | apply below_alloc | apply pw_below_drewN | apply below_drew1 | refine below_set ?_ GE140.out) | exact HB.out)) hb); clear BK140; clear HB; have BK140 := n0_; have HB := n1_; clear n0_ n1_; (try clear hb); have hcz54_0 : w53.cell? ⟨gb140, 0, none⟩ = some (.int .i64 a0_0) := (blk_cell BK140.out 0).trans rfl; have hcz54_1 : w53.cell? ⟨gb140, 1, none⟩ = some (.int .i64 a0_1) := (blk_cell BK140.out 1).trans rfl; have hcz54_2 : w53.cell? ⟨gb140, 2, none⟩ = some (.int .i64 a0_2) := (blk_cell BK140.out 2).trans rfl; have hcz54_3 : w53.cell? ⟨gb140, 3, none⟩ = some (.int .i64 a0_3) := (blk_cell BK140.out 3).trans rfl; have hcz54_4 : w53.cell? ⟨gb140, 4, none⟩ = some (.int .i64 a0_4) := (blk_cell BK140.out 4).trans rfl; have hfz54_0 := blk_frozen BK140.out 0; have hfz54_1 := blk_frozen BK140.out 1; have hfz54_2 := blk_frozen BK140.out 2; have hfz54_3 := blk_frozen BK140.out 3; have hfz54_4 := blk_frozen BK140.out 4) | ((with_reducible refine gate_callee (f := 41) rfl ?_); refine goesL_ (some 12) rfl rfl Tryd.func41 (by kernel_rfl) rfl #[.int .i64 a0_1] rfl (by (try simp only [List.map_toArray, List.map_cons, List.map_nil]); first | done | rfl | (simp only [List.length_drop, List.length_take]; rfl)) ?_; (with_reducible refine (strconv_Itoa.calls a0_1 t142 _ ?side755 A4.out).mono ?_); (case side755 => refine hG.below ?_; repeat (first | (with_reducible first | exact HB.out | apply below_alloc | apply pw_below_drewN | apply below_drew1 | refine below_set ?_ GE140.out) | exact HB.out)); rintro e w56 ⟨rfl, hb⟩; refine ⟨_, rfl, ?_⟩; have n0_ := Aside0.mk (blk_below (g := gb140) (o := .cells #[.int .i64 a0_0, .int .i64 a0_1, .int .i64 a0_2, .int .i64 a0_3, .int .i64 a0_4] 42 (0, 0)) (by (with_reducible repeat (first | refine blk_drewN ?_ _ | refine blk_drew ?_ | refine blk_alloc ?_ _)); exact BK140.out) hb); have n1_ := Aside0.mk (below_step (by repeat (first | (with_reducible first | exact HB.out | apply below_alloc | apply pw_below_drewN | apply below_drew1 | refine below_set ?_ GE140.out) | exact HB.out)) hb); clear BK140; clear HB; have BK140 := n0_; have HB := n1_; clear n0_ n1_; (try clear hb); have hcz57_0 : w56.cell? ⟨gb140, 0, none⟩ = some (.int .i64 a0_0) := (blk_cell BK140.out 0).trans rfl; have hcz57_1 : w56.cell? ⟨gb140, 1, none⟩ = some (.int .i64 a0_1) := (blk_cell BK140.out 1).trans rfl; have hcz57_2 : w56.cell? ⟨gb140, 2, none⟩ = some (.int .i64 a0_2) := (blk_cell BK140.out 2).trans rfl; have hcz57_3 : w56.cell? ⟨gb140, 3, none⟩ = some (.int .i64 a0_3) := (blk_cell BK140.out 3).trans rfl; have hcz57_4 : w56.cell? ⟨gb140, 4, none⟩ = some (.int .i64 a0_4) := (blk_cell BK140.out 4).trans rfl; have hfz57_0 := blk_frozen BK140.out 0; have hfz57_1 := blk_frozen BK140.out 1; have hfz57_2 := blk_frozen BK140.out 2; have hfz57_3 := blk_frozen BK140.out 3; have hfz57_4 := blk_frozen BK140.out 4))
            go_ret2
            exact ⟨by first | rfl | (simp [errW_none, errW_some] <;> rfl) | (simp [*, errW_none, errW_some] <;> rfl), by repeat (first | (with_reducible first | exact HB.out | apply below_alloc | apply pw_below_drewN | apply below_drew1 | refine below_set ?_ GE140.out) | exact HB.out)⟩
          · rw [if_neg c49] at H
            have c49b0 : (a0_4 == 7200) = false := beq_eq_false_iff_ne.mpr c49
            have c49b1 : (a0_4 != 7200) = true := bne_iff_ne.mpr c49
            replace H := Option.bind_eq_some_iff.mp H
            obtain ⟨⟨t147, t148⟩, A580, H⟩ := H
            replace H : (if 1 + t147.size ≤ 9223372036854775807 then (if 1 + t142.size + 1 + t147.size ≤ 9223372036854775807 then (some (((⟨#[74]⟩ : ByteArray) ++ t142) ++ ((⟨#[47]⟩ : ByteArray) ++ t147), true)) else (none)) else (none)) = some (r1, r2) := H
            have A58 := Aside0.mk A580
            clear A580
            by_cases c59 : 1 + t147.size ≤ 9223372036854775807
            · rw [if_pos c59] at H
              have c59b0 := eq_true c59
              have c59b1 : decide (1 + t147.size ≤ 9223372036854775807) = true := decide_eq_true c59
              try have c59b2 : (9223372036854775807 < 1 + t147.size) = False := eq_false (Nat.not_lt.2 c59)
              by_cases c60 : 1 + t142.size + 1 + t147.size ≤ 9223372036854775807
              · rw [if_pos c60] at H
                have c60b0 := eq_true c60
                have c60b1 : decide (1 + t142.size + 1 + t147.size ≤ 9223372036854775807) = true := decide_eq_true c60
                try have c60b2 : (9223372036854775807 < 1 + t142.size + 1 + t147.size) = False := eq_false (Nat.not_lt.2 c60)
                simp only [Option.some.injEq, Prod.mk.injEq] at H
                obtain ⟨rfl, rfl⟩ := H
                go_enter Tryd.func26, Tryd.ntmps26
                go_wp2_with (first | ((with_reducible refine gate_dst (N := 1) rfl ?_); refine box_event ?hg (N := 1) ?hd (cs := #[.int .i64 a0_0, .int .i64 a0_1, .int .i64 a0_2, .int .i64 a0_3, .int .i64 a0_4]) (t := 42) ?hr ?_; (case hd => rfl); (case hg => rfl); (case hr => first | (go_simp; done) | (go_simp; rfl)); intro gb140 hg w61 hbox hb; have n0_ := Aside0.mk (below_step (by repeat (first | (with_reducible first | exact HB.out | apply ba | apply bn | apply bd) | exact HB.out)) hb); have n1_ := Aside0.mk (hbox); have n2_ := Aside0.mk ((by rw [hg]; exact (below_size (by repeat (first | (with_reducible first | exact HB.out | apply ba | apply bn | apply bd) | exact HB.out))) : w.heap.size ≤ gb140)); have n3_ := Aside0.mk ((by rw [hg]; exact (below_size (by repeat (first | (with_reducible first | exact HB.out | apply ba | apply bn | apply bd) | exact HB.out))) : w.heap.size ≤ gb140)); clear HB; have HB := n0_; have BK140 := n1_; have GW140 := n2_; have GE140 := n3_; clear n0_ n1_ n2_ n3_; clear hb hbox hg; have hcz62_0 : w61.cell? ⟨gb140, 0, none⟩ = some (.int .i64 a0_0) := (blk_cell BK140.out 0).trans rfl; have hcz62_1 : w61.cell? ⟨gb140, 1, none⟩ = some (.int .i64 a0_1) := (blk_cell BK140.out 1).trans rfl; have hcz62_2 : w61.cell? ⟨gb140, 2, none⟩ = some (.int .i64 a0_2) := (blk_cell BK140.out 2).trans rfl; have hcz62_3 : w61.cell? ⟨gb140, 3, none⟩ = some (.int .i64 a0_3) := (blk_cell BK140.out 3).trans rfl; have hcz62_4 : w61.cell? ⟨gb140, 4, none⟩ = some (.int .i64 a0_4) := (blk_cell BK140.out 4).trans rfl; have hfz62_0 := blk_frozen BK140.out 0; have hfz62_1 := blk_frozen BK140.out 1; have hfz62_2 := blk_frozen BK140.out 2; have hfz62_3 := blk_frozen BK140.out 3; have hfz62_4 := blk_frozen BK140.out 4) | ((with_reducible refine gate_callee (f := 34) rfl ?_); refine goesL_ (some 8) rfl rfl Tryd.func34 (by kernel_rfl) rfl #[.agg #[.int .i64 a0_0, .int .i64 a0_1, .int .i64 a0_2, .int .i64 a0_3, .int .i64 a0_4]] rfl (by (try simp only [List.map_toArray, List.map_cons, List.map_nil]); first | done | rfl | (simp only [List.length_drop, List.length_take]; rfl)) ?_; (with_reducible refine (rule_Right.calls a0_0 a0_1 a0_2 a0_3 a0_4 true _ ?side763 A2.out).mono ?_); (case side763 => refine hG.below ?_; repeat (first | (with_reducible first | exact HB.out | apply below_alloc | apply pw_below_drewN | apply below_drew1 | refine below_set ?_ GE140.out) | exact HB.out)); rintro e w64 ⟨rfl, hb⟩; refine ⟨_, rfl, ?_⟩; have n0_ := Aside0.mk (blk_below (g := gb140) (o := .cells #[.int .i64 a0_0, .int .i64 a0_1, .int .i64 a0_2, .int .i64 a0_3, .int .i64 a0_4] 42 (0, 0)) (by (with_reducible repeat (first | refine blk_drewN ?_ _ | refine blk_drew ?_ | refine blk_alloc ?_ _)); exact BK140.out) hb); have n1_ := Aside0.mk (below_step (by repeat (first | (with_reducible first | exact HB.out | apply below_alloc | apply pw_below_drewN | apply below_drew1 | refine below_set ?_ GE140.out) | exact HB.out)) hb); clear BK140; clear HB; have BK140 := n0_; have HB := n1_; clear n0_ n1_; (try clear hb); have hcz65_0 : w64.cell? ⟨gb140, 0, none⟩ = some (.int .i64 a0_0) := (blk_cell BK140.out 0).trans rfl; have hcz65_1 : w64.cell? ⟨gb140, 1, none⟩ = some (.int .i64 a0_1) := (blk_cell BK140.out 1).trans rfl; have hcz65_2 : w64.cell? ⟨gb140, 2, none⟩ = some (.int .i64 a0_2) := (blk_cell BK140.out 2).trans rfl; have hcz65_3 : w64.cell? ⟨gb140, 3, none⟩ = some (.int .i64 a0_3) := (blk_cell BK140.out 3).trans rfl; have hcz65_4 : w64.cell? ⟨gb140, 4, none⟩ = some (.int .i64 a0_4) := (blk_cell BK140.out 4).trans rfl; have hfz65_0 := blk_frozen BK140.out 0; have hfz65_1 := blk_frozen BK140.out 1; have hfz65_2 := blk_frozen BK140.out 2; have hfz65_3 := blk_frozen BK140.out 3; have hfz65_4 := blk_frozen BK140.out 4) | ((with_reducible refine gate_callee (f := 41) rfl ?_); refine goesL_ (some 12) rfl rfl Tryd.func41 (by kernel_rfl) rfl #[.int .i64 a0_1] rfl (by (try simp only [List.map_toArray, List.map_cons, List.map_nil]); first | done | rfl | (simp only [List.length_drop, List.length_take]; rfl)) ?_; (with_reducible refine (strconv_Itoa.calls a0_1 t142 _ ?side766 A4.out).mono ?_); (case side766 => refine hG.below ?_; repeat (first | (with_reducible first | exact HB.out | apply below_alloc | apply pw_below_drewN | apply below_drew1 | refine below_set ?_ GE140.out) | exact HB.out)); rintro e w67 ⟨rfl, hb⟩; refine ⟨_, rfl, ?_⟩; have n0_ := Aside0.mk (blk_below (g := gb140) (o := .cells #[.int .i64 a0_0, .int .i64 a0_1, .int .i64 a0_2, .int .i64 a0_3, .int .i64 a0_4] 42 (0, 0)) (by (with_reducible repeat (first | refine blk_drewN ?_ _ | refine blk_drew ?_ | refine blk_alloc ?_ _)); exact BK140.out) hb); have n1_ := Aside0.mk (below_step (by repeat (first | (with_reducible first | exact HB.out | apply below_alloc | apply pw_below_drewN | apply below_drew1 | refine below_set ?_ GE140.out) | exact HB.out)) hb); clear BK140; clear HB; have BK140 := n0_; have HB := n1_; clear n0_ n1_; (try clear hb); have hcz68_0 : w67.cell? ⟨gb140, 0, none⟩ = some (.int .i64 a0_0) := (blk_cell BK140.out 0).trans rfl; have hcz68_1 : w67.cell? ⟨gb140, 1, none⟩ = some (.int .i64 a0_1) := (blk_cell BK140.out 1).trans rfl; have hcz68_2 : w67.cell? ⟨gb140, 2, none⟩ = some (.int .i64 a0_2) := (blk_cell BK140.out 2).trans rfl; have hcz68_3 : w67.cell? ⟨gb140, 3, none⟩ = some (.int .i64 a0_3) := (blk_cell BK140.out 3).trans rfl; have hcz68_4 : w67.cell? ⟨gb140, 4, none⟩ = some (.int .i64 a0_4) := (blk_cell BK140.out 4).trans rfl; have hfz68_0 := blk_frozen BK140.out 0; have hfz68_1 := blk_frozen BK140.out 1; have hfz68_2 := blk_frozen BK140.out 2; have hfz68_3 := blk_frozen BK140.out 3; have hfz68_4 := blk_frozen BK140.out 4) | ((with_reducible refine gate_callee (f := 22) rfl ?_); refine goesL_ (some 39) rfl rfl Tryd.func22 (by kernel_rfl) rfl #[.int .i64 a0_4] rfl (by (try simp only [List.map_toArray, List.map_cons, List.map_nil]); first | done | rfl | (simp only [List.length_drop, List.length_take]; rfl)) ?_; (with_reducible refine (rule_Clock.calls k a0_4 t147 t148 _ ?side769 A58.out).mono ?_); (case side769 => refine hG.below ?_; repeat (first | (with_reducible first | exact HB.out | apply below_alloc | apply pw_below_drewN | apply below_drew1 | refine below_set ?_ GE140.out) | exact HB.out)); rintro e w70 ⟨rfl, hb⟩; refine ⟨_, rfl, ?_⟩; have n0_ := Aside0.mk (blk_below (g := gb140) (o := .cells #[.int .i64 a0_0, .int .i64 a0_1, .int .i64 a0_2, .int .i64 a0_3, .int .i64 a0_4] 42 (0, 0)) (by (with_reducible repeat (first | refine blk_drewN ?_ _ | refine blk_drew ?_ | refine blk_alloc ?_ _)); exact BK140.out) hb); have n1_ := Aside0.mk (below_step (by repeat (first | (with_reducible first | exact HB.out | apply below_alloc | apply pw_below_drewN | apply below_drew1 | refine below_set ?_ GE140.out) | exact HB.out)) hb); clear BK140; clear HB; have BK140 := n0_; have HB := n1_; clear n0_ n1_; (try clear hb)))
                go_ret2
                exact ⟨by first | rfl | (simp [errW_none, errW_some] <;> rfl) | (simp [*, errW_none, errW_some] <;> rfl), by repeat (first | (with_reducible first | exact HB.out | apply below_alloc | apply pw_below_drewN | apply below_drew1 | refine below_set ?_ GE140.out) | exact HB.out)⟩
              · rw [if_neg c60] at H
                exact absurd H (by simp)
            · rw [if_neg c59] at H
              exact absurd H (by simp)
        · rw [if_neg c48] at H
          exact absurd H (by simp)
      · rw [if_neg c47] at H
        have c47b0 : (a0_0 == 1) = false := beq_eq_false_iff_ne.mpr c47
        have c47b1 : (a0_0 != 1) = true := bne_iff_ne.mpr c47
        by_cases c71 : a0_4 = 7200
        · rw [if_pos c71] at H
          have c71b0 : (a0_4 == 7200) = true := beq_iff_eq.mpr c71
          have c71b1 : (a0_4 != 7200) = false := bne_eq_false_iff_eq.mpr c71
          clear c71
          simp only [Option.some.injEq, Prod.mk.injEq] at H
          obtain ⟨rfl, rfl⟩ := H
          go_enter Tryd.func26, Tryd.ntmps26
          go_wp2_with (first | ((with_reducible refine gate_dst (N := 1) rfl ?_); refine box_event ?hg (N := 1) ?hd (cs := #[.int .i64 a0_0, .int .i64 a0_1, .int .i64 a0_2, .int .i64 a0_3, .int .i64 a0_4]) (t := 42) ?hr ?_; (case hd => rfl); (case hg => rfl); (case hr => first | (go_simp; done) | (go_simp; rfl)); intro gb140 hg w72 hbox hb; have n0_ := Aside0.mk (below_step (by repeat (first | (with_reducible first | exact HB.out | apply ba | apply bn | apply bd) | exact HB.out)) hb); have n1_ := Aside0.mk (hbox); have n2_ := Aside0.mk ((by rw [hg]; exact (below_size (by repeat (first | (with_reducible first | exact HB.out | apply ba | apply bn | apply bd) | exact HB.out))) : w.heap.size ≤ gb140)); have n3_ := Aside0.mk ((by rw [hg]; exact (below_size (by repeat (first | (with_reducible first | exact HB.out | apply ba | apply bn | apply bd) | exact HB.out))) : w.heap.size ≤ gb140)); clear HB; have HB := n0_; have BK140 := n1_; have GW140 := n2_; have GE140 := n3_; clear n0_ n1_ n2_ n3_; clear hb hbox hg; have hcz73_0 : w72.cell? ⟨gb140, 0, none⟩ = some (.int .i64 a0_0) := (blk_cell BK140.out 0).trans rfl; have hcz73_1 : w72.cell? ⟨gb140, 1, none⟩ = some (.int .i64 a0_1) := (blk_cell BK140.out 1).trans rfl; have hcz73_2 : w72.cell? ⟨gb140, 2, none⟩ = some (.int .i64 a0_2) := (blk_cell BK140.out 2).trans rfl; have hcz73_3 : w72.cell? ⟨gb140, 3, none⟩ = some (.int .i64 a0_3) := (blk_cell BK140.out 3).trans rfl; have hcz73_4 : w72.cell? ⟨gb140, 4, none⟩ = some (.int .i64 a0_4) := (blk_cell BK140.out 4).trans rfl; have hfz73_0 := blk_frozen BK140.out 0; have hfz73_1 := blk_frozen BK140.out 1; have hfz73_2 := blk_frozen BK140.out 2; have hfz73_3 := blk_frozen BK140.out 3; have hfz73_4 := blk_frozen BK140.out 4) | ((with_reducible refine gate_callee (f := 34) rfl ?_); refine goesL_ (some 8) rfl rfl Tryd.func34 (by kernel_rfl) rfl #[.agg #[.int .i64 a0_0, .int .i64 a0_1, .int .i64 a0_2, .int .i64 a0_3, .int .i64 a0_4]] rfl (by (try simp only [List.map_toArray, List.map_cons, List.map_nil]); first | done | rfl | (simp only [List.length_drop, List.length_take]; rfl)) ?_; (with_reducible refine (rule_Right.calls a0_0 a0_1 a0_2 a0_3 a0_4 true _ ?side774 A2.out).mono ?_); (case side774 => refine hG.below ?_; repeat (first | (with_reducible first | exact HB.out | apply below_alloc | apply pw_below_drewN | apply below_drew1 | refine below_set ?_ GE140.out) | exact HB.out)); rintro e w75 ⟨rfl, hb⟩; refine ⟨_, rfl, ?_⟩; have n0_ := Aside0.mk (blk_below (g := gb140) (o := .cells #[.int .i64 a0_0, .int .i64 a0_1, .int .i64 a0_2, .int .i64 a0_3, .int .i64 a0_4] 42 (0, 0)) (by (with_reducible repeat (first | refine blk_drewN ?_ _ | refine blk_drew ?_ | refine blk_alloc ?_ _)); exact BK140.out) hb); have n1_ := Aside0.mk (below_step (by repeat (first | (with_reducible first | exact HB.out | apply below_alloc | apply pw_below_drewN | apply below_drew1 | refine below_set ?_ GE140.out) | exact HB.out)) hb); clear BK140; clear HB; have BK140 := n0_; have HB := n1_; clear n0_ n1_; (try clear hb); have hcz76_0 : w75.cell? ⟨gb140, 0, none⟩ = some (.int .i64 a0_0) := (blk_cell BK140.out 0).trans rfl; have hcz76_1 : w75.cell? ⟨gb140, 1, none⟩ = some (.int .i64 a0_1) := (blk_cell BK140.out 1).trans rfl; have hcz76_2 : w75.cell? ⟨gb140, 2, none⟩ = some (.int .i64 a0_2) := (blk_cell BK140.out 2).trans rfl; have hcz76_3 : w75.cell? ⟨gb140, 3, none⟩ = some (.int .i64 a0_3) := (blk_cell BK140.out 3).trans rfl; have hcz76_4 : w75.cell? ⟨gb140, 4, none⟩ = some (.int .i64 a0_4) := (blk_cell BK140.out 4).trans rfl; have hfz76_0 := blk_frozen BK140.out 0; have hfz76_1 := blk_frozen BK140.out 1; have hfz76_2 := blk_frozen BK140.out 2; have hfz76_3 := blk_frozen BK140.out 3; have hfz76_4 := blk_frozen BK140.out 4) | ((with_reducible refine gate_callee (f := 41) rfl ?_); refine goesL_ (some 12) rfl rfl Tryd.func41 (by kernel_rfl) rfl #[.int .i64 a0_1] rfl (by (try simp only [List.map_toArray, List.map_cons, List.map_nil]); first | done | rfl | (simp only [List.length_drop, List.length_take]; rfl)) ?_; (with_reducible refine (strconv_Itoa.calls a0_1 t142 _ ?side777 A4.out).mono ?_); (case side777 => refine hG.below ?_; repeat (first | (with_reducible first | exact HB.out | apply below_alloc | apply pw_below_drewN | apply below_drew1 | refine below_set ?_ GE140.out) | exact HB.out)); rintro e w78 ⟨rfl, hb⟩; refine ⟨_, rfl, ?_⟩; have n0_ := Aside0.mk (blk_below (g := gb140) (o := .cells #[.int .i64 a0_0, .int .i64 a0_1, .int .i64 a0_2, .int .i64 a0_3, .int .i64 a0_4] 42 (0, 0)) (by (with_reducible repeat (first | refine blk_drewN ?_ _ | refine blk_drew ?_ | refine blk_alloc ?_ _)); exact BK140.out) hb); have n1_ := Aside0.mk (below_step (by repeat (first | (with_reducible first | exact HB.out | apply below_alloc | apply pw_below_drewN | apply below_drew1 | refine below_set ?_ GE140.out) | exact HB.out)) hb); clear BK140; clear HB; have BK140 := n0_; have HB := n1_; clear n0_ n1_; (try clear hb); have hcz79_0 : w78.cell? ⟨gb140, 0, none⟩ = some (.int .i64 a0_0) := (blk_cell BK140.out 0).trans rfl; have hcz79_1 : w78.cell? ⟨gb140, 1, none⟩ = some (.int .i64 a0_1) := (blk_cell BK140.out 1).trans rfl; have hcz79_2 : w78.cell? ⟨gb140, 2, none⟩ = some (.int .i64 a0_2) := (blk_cell BK140.out 2).trans rfl; have hcz79_3 : w78.cell? ⟨gb140, 3, none⟩ = some (.int .i64 a0_3) := (blk_cell BK140.out 3).trans rfl; have hcz79_4 : w78.cell? ⟨gb140, 4, none⟩ = some (.int .i64 a0_4) := (blk_cell BK140.out 4).trans rfl; have hfz79_0 := blk_frozen BK140.out 0; have hfz79_1 := blk_frozen BK140.out 1; have hfz79_2 := blk_frozen BK140.out 2; have hfz79_3 := blk_frozen BK140.out 3; have hfz79_4 := blk_frozen BK140.out 4))
          go_ret2
          exact ⟨by first | rfl | (simp [errW_none, errW_some] <;> rfl) | (simp [*, errW_none, errW_some] <;> rfl), by repeat (first | (with_reducible first | exact HB.out | apply below_alloc | apply pw_below_drewN | apply below_drew1 | refine below_set ?_ GE140.out) | exact HB.out)⟩
        · rw [if_neg c71] at H
          have c71b0 : (a0_4 == 7200) = false := beq_eq_false_iff_ne.mpr c71
          have c71b1 : (a0_4 != 7200) = true := bne_iff_ne.mpr c71
          replace H := Option.bind_eq_some_iff.mp H
          obtain ⟨⟨t149, t150⟩, A800, H⟩ := H
          replace H : (if 1 + t149.size ≤ 9223372036854775807 then (if t142.size + 1 + t149.size ≤ 9223372036854775807 then (some (t142 ++ ((⟨#[47]⟩ : ByteArray) ++ t149), true)) else (none)) else (none)) = some (r1, r2) := H
          have A80 := Aside0.mk A800
          clear A800
          by_cases c81 : 1 + t149.size ≤ 9223372036854775807
          · rw [if_pos c81] at H
            have c81b0 := eq_true c81
            have c81b1 : decide (1 + t149.size ≤ 9223372036854775807) = true := decide_eq_true c81
            try have c81b2 : (9223372036854775807 < 1 + t149.size) = False := eq_false (Nat.not_lt.2 c81)
            by_cases c82 : t142.size + 1 + t149.size ≤ 9223372036854775807
            · rw [if_pos c82] at H
              have c82b0 := eq_true c82
              have c82b1 : decide (t142.size + 1 + t149.size ≤ 9223372036854775807) = true := decide_eq_true c82
              try have c82b2 : (9223372036854775807 < t142.size + 1 + t149.size) = False := eq_false (Nat.not_lt.2 c82)
              simp only [Option.some.injEq, Prod.mk.injEq] at H
              obtain ⟨rfl, rfl⟩ := H
              go_enter Tryd.func26, Tryd.ntmps26
              go_wp2_with (first | ((with_reducible refine gate_dst (N := 1) rfl ?_); refine box_event ?hg (N := 1) ?hd (cs := #[.int .i64 a0_0, .int .i64 a0_1, .int .i64 a0_2, .int .i64 a0_3, .int .i64 a0_4]) (t := 42) ?hr ?_; (case hd => rfl); (case hg => rfl); (case hr => first | (go_simp; done) | (go_simp; rfl)); intro gb140 hg w83 hbox hb; have n0_ := Aside0.mk (below_step (by repeat (first | (with_reducible first | exact HB.out | apply ba | apply bn | apply bd) | exact HB.out)) hb); have n1_ := Aside0.mk (hbox); have n2_ := Aside0.mk ((by rw [hg]; exact (below_size (by repeat (first | (with_reducible first | exact HB.out | apply ba | apply bn | apply bd) | exact HB.out))) : w.heap.size ≤ gb140)); have n3_ := Aside0.mk ((by rw [hg]; exact (below_size (by repeat (first | (with_reducible first | exact HB.out | apply ba | apply bn | apply bd) | exact HB.out))) : w.heap.size ≤ gb140)); clear HB; have HB := n0_; have BK140 := n1_; have GW140 := n2_; have GE140 := n3_; clear n0_ n1_ n2_ n3_; clear hb hbox hg; have hcz84_0 : w83.cell? ⟨gb140, 0, none⟩ = some (.int .i64 a0_0) := (blk_cell BK140.out 0).trans rfl; have hcz84_1 : w83.cell? ⟨gb140, 1, none⟩ = some (.int .i64 a0_1) := (blk_cell BK140.out 1).trans rfl; have hcz84_2 : w83.cell? ⟨gb140, 2, none⟩ = some (.int .i64 a0_2) := (blk_cell BK140.out 2).trans rfl; have hcz84_3 : w83.cell? ⟨gb140, 3, none⟩ = some (.int .i64 a0_3) := (blk_cell BK140.out 3).trans rfl; have hcz84_4 : w83.cell? ⟨gb140, 4, none⟩ = some (.int .i64 a0_4) := (blk_cell BK140.out 4).trans rfl; have hfz84_0 := blk_frozen BK140.out 0; have hfz84_1 := blk_frozen BK140.out 1; have hfz84_2 := blk_frozen BK140.out 2; have hfz84_3 := blk_frozen BK140.out 3; have hfz84_4 := blk_frozen BK140.out 4) | ((with_reducible refine gate_callee (f := 34) rfl ?_); refine goesL_ (some 8) rfl rfl Tryd.func34 (by kernel_rfl) rfl #[.agg #[.int .i64 a0_0, .int .i64 a0_1, .int .i64 a0_2, .int .i64 a0_3, .int .i64 a0_4]] rfl (by (try simp only [List.map_toArray, List.map_cons, List.map_nil]); first | done | rfl | (simp only [List.length_drop, List.length_take]; rfl)) ?_; (with_reducible refine (rule_Right.calls a0_0 a0_1 a0_2 a0_3 a0_4 true _ ?side785 A2.out).mono ?_); (case side785 => refine hG.below ?_; repeat (first | (with_reducible first | exact HB.out | apply below_alloc | apply pw_below_drewN | apply below_drew1 | refine below_set ?_ GE140.out) | exact HB.out)); rintro e w86 ⟨rfl, hb⟩; refine ⟨_, rfl, ?_⟩; have n0_ := Aside0.mk (blk_below (g := gb140) (o := .cells #[.int .i64 a0_0, .int .i64 a0_1, .int .i64 a0_2, .int .i64 a0_3, .int .i64 a0_4] 42 (0, 0)) (by (with_reducible repeat (first | refine blk_drewN ?_ _ | refine blk_drew ?_ | refine blk_alloc ?_ _)); exact BK140.out) hb); have n1_ := Aside0.mk (below_step (by repeat (first | (with_reducible first | exact HB.out | apply below_alloc | apply pw_below_drewN | apply below_drew1 | refine below_set ?_ GE140.out) | exact HB.out)) hb); clear BK140; clear HB; have BK140 := n0_; have HB := n1_; clear n0_ n1_; (try clear hb); have hcz87_0 : w86.cell? ⟨gb140, 0, none⟩ = some (.int .i64 a0_0) := (blk_cell BK140.out 0).trans rfl; have hcz87_1 : w86.cell? ⟨gb140, 1, none⟩ = some (.int .i64 a0_1) := (blk_cell BK140.out 1).trans rfl; have hcz87_2 : w86.cell? ⟨gb140, 2, none⟩ = some (.int .i64 a0_2) := (blk_cell BK140.out 2).trans rfl; have hcz87_3 : w86.cell? ⟨gb140, 3, none⟩ = some (.int .i64 a0_3) := (blk_cell BK140.out 3).trans rfl; have hcz87_4 : w86.cell? ⟨gb140, 4, none⟩ = some (.int .i64 a0_4) := (blk_cell BK140.out 4).trans rfl; have hfz87_0 := blk_frozen BK140.out 0; have hfz87_1 := blk_frozen BK140.out 1; have hfz87_2 := blk_frozen BK140.out 2; have hfz87_3 := blk_frozen BK140.out 3; have hfz87_4 := blk_frozen BK140.out 4) | ((with_reducible refine gate_callee (f := 41) rfl ?_); refine goesL_ (some 12) rfl rfl Tryd.func41 (by kernel_rfl) rfl #[.int .i64 a0_1] rfl (by (try simp only [List.map_toArray, List.map_cons, List.map_nil]); first | done | rfl | (simp only [List.length_drop, List.length_take]; rfl)) ?_; (with_reducible refine (strconv_Itoa.calls a0_1 t142 _ ?side788 A4.out).mono ?_); (case side788 => refine hG.below ?_; repeat (first | (with_reducible first | exact HB.out | apply below_alloc | apply pw_below_drewN | apply below_drew1 | refine below_set ?_ GE140.out) | exact HB.out)); rintro e w89 ⟨rfl, hb⟩; refine ⟨_, rfl, ?_⟩; have n0_ := Aside0.mk (blk_below (g := gb140) (o := .cells #[.int .i64 a0_0, .int .i64 a0_1, .int .i64 a0_2, .int .i64 a0_3, .int .i64 a0_4] 42 (0, 0)) (by (with_reducible repeat (first | refine blk_drewN ?_ _ | refine blk_drew ?_ | refine blk_alloc ?_ _)); exact BK140.out) hb); have n1_ := Aside0.mk (below_step (by repeat (first | (with_reducible first | exact HB.out | apply below_alloc | apply pw_below_drewN | apply below_drew1 | refine below_set ?_ GE140.out) | exact HB.out)) hb); clear BK140; clear HB; have BK140 := n0_; have HB := n1_; clear n0_ n1_; (try clear hb); have hcz90_0 : w89.cell? ⟨gb140, 0, none⟩ = some (.int .i64 a0_0) := (blk_cell BK140.out 0).trans rfl; have hcz90_1 : w89.cell? ⟨gb140, 1, none⟩ = some (.int .i64 a0_1) := (blk_cell BK140.out 1).trans rfl; have hcz90_2 : w89.cell? ⟨gb140, 2, none⟩ = some (.int .i64 a0_2) := (blk_cell BK140.out 2).trans rfl; have hcz90_3 : w89.cell? ⟨gb140, 3, none⟩ = some (.int .i64 a0_3) := (blk_cell BK140.out 3).trans rfl; have hcz90_4 : w89.cell? ⟨gb140, 4, none⟩ = some (.int .i64 a0_4) := (blk_cell BK140.out 4).trans rfl; have hfz90_0 := blk_frozen BK140.out 0; have hfz90_1 := blk_frozen BK140.out 1; have hfz90_2 := blk_frozen BK140.out 2; have hfz90_3 := blk_frozen BK140.out 3; have hfz90_4 := blk_frozen BK140.out 4) | ((with_reducible refine gate_callee (f := 22) rfl ?_); refine goesL_ (some 39) rfl rfl Tryd.func22 (by kernel_rfl) rfl #[.int .i64 a0_4] rfl (by (try simp only [List.map_toArray, List.map_cons, List.map_nil]); first | done | rfl | (simp only [List.length_drop, List.length_take]; rfl)) ?_; (with_reducible refine (rule_Clock.calls k a0_4 t149 t150 _ ?side791 A80.out).mono ?_); (case side791 => refine hG.below ?_; repeat (first | (with_reducible first | exact HB.out | apply below_alloc | apply pw_below_drewN | apply below_drew1 | refine below_set ?_ GE140.out) | exact HB.out)); rintro e w92 ⟨rfl, hb⟩; refine ⟨_, rfl, ?_⟩; have n0_ := Aside0.mk (blk_below (g := gb140) (o := .cells #[.int .i64 a0_0, .int .i64 a0_1, .int .i64 a0_2, .int .i64 a0_3, .int .i64 a0_4] 42 (0, 0)) (by (with_reducible repeat (first | refine blk_drewN ?_ _ | refine blk_drew ?_ | refine blk_alloc ?_ _)); exact BK140.out) hb); have n1_ := Aside0.mk (below_step (by repeat (first | (with_reducible first | exact HB.out | apply below_alloc | apply pw_below_drewN | apply below_drew1 | refine below_set ?_ GE140.out) | exact HB.out)) hb); clear BK140; clear HB; have BK140 := n0_; have HB := n1_; clear n0_ n1_; (try clear hb)))
              go_ret2
              exact ⟨by first | rfl | (simp [errW_none, errW_some] <;> rfl) | (simp [*, errW_none, errW_some] <;> rfl), by repeat (first | (with_reducible first | exact HB.out | apply below_alloc | apply pw_below_drewN | apply below_drew1 | refine below_set ?_ GE140.out) | exact HB.out)⟩
            · rw [if_neg c82] at H
              exact absurd H (by simp)
          · rw [if_neg c81] at H
            exact absurd H (by simp)
  · replace c3 := Bool.eq_false_iff.mpr c3
    subst c3
    have H1 : (some ((⟨#[]⟩ : ByteArray), false)) = some (r1, r2) := by rw [if_neg (show ¬ (false = true) by decide)] at H; exact H
    clear H
    have H := H1
    clear H1
    simp only [Option.some.injEq, Prod.mk.injEq] at H
    obtain ⟨rfl, rfl⟩ := H
    go_enter Tryd.func26, Tryd.ntmps26
    go_wp2_with (first | ((with_reducible refine gate_dst (N := 1) rfl ?_); refine box_event ?hg (N := 1) ?hd (cs := #[.int .i64 a0_0, .int .i64 a0_1, .int .i64 a0_2, .int .i64 a0_3, .int .i64 a0_4]) (t := 42) ?hr ?_; (case hd => rfl); (case hg => rfl); (case hr => first | (go_simp; done) | (go_simp; rfl)); intro gb140 hg w93 hbox hb; have n0_ := Aside0.mk (below_step (by repeat (first | (with_reducible first | exact HB.out | apply ba | apply bn | apply bd) | exact HB.out)) hb); have n1_ := Aside0.mk (hbox); have n2_ := Aside0.mk ((by rw [hg]; exact (below_size (by repeat (first | (with_reducible first | exact HB.out | apply ba | apply bn | apply bd) | exact HB.out))) : w.heap.size ≤ gb140)); have n3_ := Aside0.mk ((by rw [hg]; exact (below_size (by repeat (first | (with_reducible first | exact HB.out | apply ba | apply bn | apply bd) | exact HB.out))) : w.heap.size ≤ gb140)); clear HB; have HB := n0_; have BK140 := n1_; have GW140 := n2_; have GE140 := n3_; clear n0_ n1_ n2_ n3_; clear hb hbox hg; have hcz94_0 : w93.cell? ⟨gb140, 0, none⟩ = some (.int .i64 a0_0) := (blk_cell BK140.out 0).trans rfl; have hcz94_1 : w93.cell? ⟨gb140, 1, none⟩ = some (.int .i64 a0_1) := (blk_cell BK140.out 1).trans rfl; have hcz94_2 : w93.cell? ⟨gb140, 2, none⟩ = some (.int .i64 a0_2) := (blk_cell BK140.out 2).trans rfl; have hcz94_3 : w93.cell? ⟨gb140, 3, none⟩ = some (.int .i64 a0_3) := (blk_cell BK140.out 3).trans rfl; have hcz94_4 : w93.cell? ⟨gb140, 4, none⟩ = some (.int .i64 a0_4) := (blk_cell BK140.out 4).trans rfl; have hfz94_0 := blk_frozen BK140.out 0; have hfz94_1 := blk_frozen BK140.out 1; have hfz94_2 := blk_frozen BK140.out 2; have hfz94_3 := blk_frozen BK140.out 3; have hfz94_4 := blk_frozen BK140.out 4) | ((with_reducible refine gate_callee (f := 34) rfl ?_); refine goesL_ (some 8) rfl rfl Tryd.func34 (by kernel_rfl) rfl #[.agg #[.int .i64 a0_0, .int .i64 a0_1, .int .i64 a0_2, .int .i64 a0_3, .int .i64 a0_4]] rfl (by (try simp only [List.map_toArray, List.map_cons, List.map_nil]); first | done | rfl | (simp only [List.length_drop, List.length_take]; rfl)) ?_; (with_reducible refine (rule_Right.calls a0_0 a0_1 a0_2 a0_3 a0_4 false _ ?side795 A2.out).mono ?_); (case side795 => refine hG.below ?_; repeat (first | (with_reducible first | exact HB.out | apply below_alloc | apply pw_below_drewN | apply below_drew1 | refine below_set ?_ GE140.out) | exact HB.out)); rintro e w96 ⟨rfl, hb⟩; refine ⟨_, rfl, ?_⟩; have n0_ := Aside0.mk (blk_below (g := gb140) (o := .cells #[.int .i64 a0_0, .int .i64 a0_1, .int .i64 a0_2, .int .i64 a0_3, .int .i64 a0_4] 42 (0, 0)) (by (with_reducible repeat (first | refine blk_drewN ?_ _ | refine blk_drew ?_ | refine blk_alloc ?_ _)); exact BK140.out) hb); have n1_ := Aside0.mk (below_step (by repeat (first | (with_reducible first | exact HB.out | apply below_alloc | apply pw_below_drewN | apply below_drew1 | refine below_set ?_ GE140.out) | exact HB.out)) hb); clear BK140; clear HB; have BK140 := n0_; have HB := n1_; clear n0_ n1_; (try clear hb)))
    go_ret2
    exact ⟨by first | rfl | (simp [errW_none, errW_some] <;> rfl) | (simp [*, errW_none, errW_some] <;> rfl), by repeat (first | (with_reducible first | exact HB.out | apply below_alloc | apply pw_below_drewN | apply below_drew1 | refine below_set ?_ GE140.out) | exact HB.out)⟩

end Go.Proofs.YtghjemcbkackjaaDoor.P
