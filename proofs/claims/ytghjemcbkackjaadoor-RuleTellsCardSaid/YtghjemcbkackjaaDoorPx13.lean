-- written by this project's program mkprint.py out of the translation; Lean checks it
import Derived.Test.YtghjemcbkackjaaDoorPx0
import Derived.Test.YtghjemcbkackjaaDoorPx12
namespace Go.Proofs.YtghjemcbkackjaaDoor.P
open Go.Proofs.YtghjemcbkackjaaDoor.F
open Go.RowKit Go.Proofs.YtghjemcbkackjaaDoorW.PrintWords Go.Proofs.YtghjemcbkackjaaDoorW.PrintLast Go.Proofs.YtghjemcbkackjaaDoorW.PrintMore
attribute [local go_sem] max2_int min2_int max_two min_two max_three min_three max_four min_four   -- for this text's walks alone
set_option linter.unusedVariables false
set_option linter.unusedSimpArgs false

/-! ### epactref17_Time: function 25 -/
mutual
def epactref17_Time.j0 : Nat → ByteArray → ByteArray → Int → Bool → Option (Int × ByteArray × Bool)
  | 0, _, _, _, _ => none
  | k + 1, x0, x5, x6, x26 => if x26 = true then (if 0 < (x5.size : Int) then (if (bt x5 0) = 45 then (if 1 ≤ (x5.size : Int) then (epactref17_Time.j1 k x0 (x5.extract 1 x5.size) (-1)) else (none)) else (if 1 ≤ (x5.size : Int) then (epactref17_Time.j1 k x0 (x5.extract 1 x5.size) x6) else (none))) else (none)) else (epactref17_Time.j1 k x0 x5 x6)
def epactref17_Time.j1 : Nat → ByteArray → ByteArray → Int → Option (Int × ByteArray × Bool)
  | 0, _, _, _ => none
  | k + 1, x0, x5, x6 => epactref17_Time.l0 k x0 x5 x6 0 0
def epactref17_Time.j3 : Nat → ByteArray → ByteArray → Int → Int → Int → Option (Int × ByteArray × Bool)
  | 0, _, _, _, _, _ => none
  | k + 1, x0, x5, x6, x7, x8 => if x7 = 0 then (some (0, x0, false)) else (if 0 ≤ x7 then (if x7 ≤ (x5.size : Int) then ((epactref17_two.f (x5.extract (x7 : Int).toNat x5.size)).bind fun bt282 => (if bt282.1 < 0 then (some (wrap64 ((wrap64 (x6 * 3600)) * x8), x5.extract (x7 : Int).toNat x5.size, true)) else ((epactref17_two.f bt282.2).bind fun bt284 => (if bt284.1 < 0 then (some (wrap64 (x6 * (wrap64 ((wrap64 (3600 * x8)) + (wrap64 (60 * bt282.1))))), bt282.2, true)) else (some (wrap64 (x6 * (wrap64 ((wrap64 ((wrap64 (3600 * x8)) + (wrap64 (60 * bt282.1)))) + bt284.1))), bt284.2, true)))))) else (none)) else (none))
def epactref17_Time.l0 : Nat → ByteArray → ByteArray → Int → Int → Int → Option (Int × ByteArray × Bool)
  | 0, _, _, _, _, _ => none
  | k + 1, x0, x5, x6, x7, x8 => if x7 < (x5.size : Int) then (if x7 < 3 then (if 0 ≤ x7 then (if (bt x5 x7) ≥ 48 then (if (bt x5 x7) ≤ 57 then (if (wrap64 ((wrap64 (10 * x8)) + (((bt x5 x7) - 48) % 256))) ≤ 167 then (epactref17_Time.l0 k x0 x5 x6 (wrap64 (x7 + 1)) (wrap64 ((wrap64 (10 * x8)) + (((bt x5 x7) - 48) % 256)))) else (epactref17_Time.j3 k x0 x5 x6 x7 x8)) else (epactref17_Time.j3 k x0 x5 x6 x7 x8)) else (epactref17_Time.j3 k x0 x5 x6 x7 x8)) else (none)) else (epactref17_Time.j3 k x0 x5 x6 x7 x8)) else (epactref17_Time.j3 k x0 x5 x6 x7 x8)
end
def epactref17_Time.f (k : Nat) (a0 : ByteArray) : Option (Int × ByteArray × Bool) := if (a0.size : Int) > 0 then (if 0 < (a0.size : Int) then (if (bt a0 0) = 45 then (epactref17_Time.j0 k a0 a0 1 true) else (epactref17_Time.j0 k a0 a0 1 ((bt a0 0) == 43))) else (none)) else (epactref17_Time.j0 k a0 a0 1 false)
theorem epactref17_Time.mono_l : ∀ k, (∀ y0 y1 y2 y3, LeO (epactref17_Time.j0 k y0 y1 y2 y3) (epactref17_Time.j0 (k + 1) y0 y1 y2 y3)) ∧ (∀ y0 y1 y2, LeO (epactref17_Time.j1 k y0 y1 y2) (epactref17_Time.j1 (k + 1) y0 y1 y2)) ∧ (∀ y0 y1 y2 y3 y4, LeO (epactref17_Time.j3 k y0 y1 y2 y3 y4) (epactref17_Time.j3 (k + 1) y0 y1 y2 y3 y4)) ∧ (∀ y0 y1 y2 y3 y4, LeO (epactref17_Time.l0 k y0 y1 y2 y3 y4) (epactref17_Time.l0 (k + 1) y0 y1 y2 y3 y4))
  | 0 => ⟨fun _ _ _ _ r h => by simp [epactref17_Time.j0] at h, fun _ _ _ r h => by simp [epactref17_Time.j1] at h, fun _ _ _ _ _ r h => by simp [epactref17_Time.j3] at h, fun _ _ _ _ _ r h => by simp [epactref17_Time.l0] at h⟩
  | k + 1 => by
    obtain ⟨ih0, ih1, ih2, ih3⟩ := epactref17_Time.mono_l k
    refine ⟨?_, ?_, ?_, ?_⟩
    · intro y0 y1 y2 y3
      unfold epactref17_Time.j0
      repeat' first
      | (with_reducible exact ih0 _ _ _ _)
      | (with_reducible exact ih1 _ _ _)
      | (with_reducible exact ih2 _ _ _ _ _)
      | (with_reducible exact ih3 _ _ _ _ _)
      | (with_reducible exact LeO.refl _)
      | (with_reducible exact LeO.none _)
      | (with_reducible refine LeO.ite ?_ ?_)
      | (with_reducible refine LeO.bind ?_ (fun _ => ?_))
      | exact ih0 _ _ _ _
      | exact ih1 _ _ _
      | exact ih2 _ _ _ _ _
      | exact ih3 _ _ _ _ _
      | exact LeO.none _
      | refine LeO.ite ?_ ?_
      | refine LeO.bind ?_ (fun _ => ?_)
    · intro y0 y1 y2
      unfold epactref17_Time.j1
      repeat' first
      | (with_reducible exact ih0 _ _ _ _)
      | (with_reducible exact ih1 _ _ _)
      | (with_reducible exact ih2 _ _ _ _ _)
      | (with_reducible exact ih3 _ _ _ _ _)
      | (with_reducible exact LeO.refl _)
      | (with_reducible exact LeO.none _)
      | (with_reducible refine LeO.ite ?_ ?_)
      | (with_reducible refine LeO.bind ?_ (fun _ => ?_))
      | exact ih0 _ _ _ _
      | exact ih1 _ _ _
      | exact ih2 _ _ _ _ _
      | exact ih3 _ _ _ _ _
      | exact LeO.none _
      | refine LeO.ite ?_ ?_
      | refine LeO.bind ?_ (fun _ => ?_)
    · intro y0 y1 y2 y3 y4
      unfold epactref17_Time.j3
      repeat' first
      | (with_reducible exact ih0 _ _ _ _)
      | (with_reducible exact ih1 _ _ _)
      | (with_reducible exact ih2 _ _ _ _ _)
      | (with_reducible exact ih3 _ _ _ _ _)
      | (with_reducible exact LeO.refl _)
      | (with_reducible exact LeO.none _)
      | (with_reducible refine LeO.ite ?_ ?_)
      | (with_reducible refine LeO.bind ?_ (fun _ => ?_))
      | exact ih0 _ _ _ _
      | exact ih1 _ _ _
      | exact ih2 _ _ _ _ _
      | exact ih3 _ _ _ _ _
      | exact LeO.none _
      | refine LeO.ite ?_ ?_
      | refine LeO.bind ?_ (fun _ => ?_)
    · intro y0 y1 y2 y3 y4
      unfold epactref17_Time.l0
      repeat' first
      | (with_reducible exact ih0 _ _ _ _)
      | (with_reducible exact ih1 _ _ _)
      | (with_reducible exact ih2 _ _ _ _ _)
      | (with_reducible exact ih3 _ _ _ _ _)
      | (with_reducible exact LeO.refl _)
      | (with_reducible exact LeO.none _)
      | (with_reducible refine LeO.ite ?_ ?_)
      | (with_reducible refine LeO.bind ?_ (fun _ => ?_))
      | exact ih0 _ _ _ _
      | exact ih1 _ _ _
      | exact ih2 _ _ _ _ _
      | exact ih3 _ _ _ _ _
      | exact LeO.none _
      | refine LeO.ite ?_ ?_
      | refine LeO.bind ?_ (fun _ => ?_)
theorem epactref17_Time.mono : ∀ a0 k, LeO (epactref17_Time.f k a0) (epactref17_Time.f (k + 1) a0) := by
  intro a0 k
  obtain ⟨ih0, ih1, ih2, ih3⟩ := epactref17_Time.mono_l k
  unfold epactref17_Time.f
  repeat' first
      | (with_reducible exact ih0 _ _ _ _)
      | (with_reducible exact ih1 _ _ _)
      | (with_reducible exact ih2 _ _ _ _ _)
      | (with_reducible exact ih3 _ _ _ _ _)
      | (with_reducible exact LeO.refl _)
      | (with_reducible exact LeO.none _)
      | (with_reducible refine LeO.ite ?_ ?_)
      | (with_reducible refine LeO.bind ?_ (fun _ => ?_))
      | exact ih0 _ _ _ _
      | exact ih1 _ _ _
      | exact ih2 _ _ _ _ _
      | exact ih3 _ _ _ _ _
      | exact LeO.none _
      | refine LeO.ite ?_ ?_
      | refine LeO.bind ?_ (fun _ => ?_)
set_option maxHeartbeats 8000000 in
set_option maxRecDepth 100000 in
theorem epactref17_Time.calls (k : Nat) (a0 : ByteArray) (r1 : Int) (r2 : ByteArray) (r3 : Bool) (w : World) (hG : GW w) (h : epactref17_Time.f k a0 = some (r1, r2, r3)) :
    Calls Tryd.prog 25 #[.string a0] w fun e w' => e = .returned (.tuple #[.int .i64 r1, .string r2, .bool r3]) ∧ Drawn0 w w' := by
  have H : (if (a0.size : Int) > 0 then (if 0 < (a0.size : Int) then (if (bt a0 0) = 45 then (epactref17_Time.j0 k a0 a0 1 true) else (epactref17_Time.j0 k a0 a0 1 ((bt a0 0) == 43))) else (none)) else (epactref17_Time.j0 k a0 a0 1 false)) = some (r1, r2, r3) := h
  clear h
  have HC2 := Aside0.mk H
  clear H
  go_enter Tryd.func25, Tryd.ntmps25
  go_upto_region 3 with (fail)
  go_cut [26] (fun v26 wc => ∃ (kq : Nat) (x26_1 : Bool), v26 = .bool x26_1 ∧ Aside0 (epactref17_Time.j0 kq a0 a0 1 x26_1 = some (r1, r2, r3)) ∧ Aside0 (kq ≤ k) ∧ Drawn0 w wc)
  case first =>
    have H := HC2.out
    clear HC2
    by_cases c3 : (a0.size : Int) > 0
    · rw [if_pos c3] at H
      have c3b0 : decide (0 < (a0.size : Int)) = true := decide_eq_true c3
      have c3b1 : decide (0 < a0.size) = true := decide_eq_true (by omega)
      clear c3
      (first | rw [c3b0] | (simp only [i64_w, i32_w]; rw [c3b0]) | skip)
      by_cases c4 : 0 < (a0.size : Int)
      · rw [if_pos c4] at H
        have c4b0 : decide (0 < (a0.size : Int)) = true := decide_eq_true c4
        have c4b1 : decide (0 < a0.size) = true := decide_eq_true (by omega)
        clear c4
        by_cases c6 : (bt a0 0) = 45
        · rw [if_pos c6] at H
          have c6b0 : ((bt a0 0) == 45) = true := beq_iff_eq.mpr c6
          have c6b1 : ((bt a0 0) != 45) = false := bne_eq_false_iff_eq.mpr c6
          clear c6
          have H' := Aside0.mk H
          clear H
          have p5 : 0 ≤ (0 : Int) := (by omega)
          have q5 : 0 < a0.size := (by have : (0 : Int) < (a0.size : Int) := of_decide_eq_true (by first | (with_reducible assumption) | assumption); omega)
          have hx5 : ∀ h : 0 < a0.size, ((a0[0]'h).toNat : Int) = bt a0 0 := bt_at a0 0
          clear p5
          have qi5 : (0 < (a0.size : Int)) = True := eq_true (of_decide_eq_true (by first | (with_reducible assumption) | assumption))
          replace q5 := eq_true q5
          go_wp2
          go_meet
          case rel => exact ⟨_, (true), (by first | rfl | (simp; done) | (simp [*]; done) | (refine congrArg _ ?_; rw [Bool.eq_iff_iff]; simp; done)), H', ⟨by first | omega | exact Nat.le_refl _⟩, by repeat (first | exact Drawn0.refl _ | apply Drawn0.step)⟩
        · rw [if_neg c6] at H
          have c6b0 : ((bt a0 0) == 45) = false := beq_eq_false_iff_ne.mpr c6
          have c6b1 : ((bt a0 0) != 45) = true := bne_iff_ne.mpr c6
          have H' := Aside0.mk H
          clear H
          have p5 : 0 ≤ (0 : Int) := (by omega)
          have q5 : 0 < a0.size := (by have : (0 : Int) < (a0.size : Int) := of_decide_eq_true (by first | (with_reducible assumption) | assumption); omega)
          have hx5 : ∀ h : 0 < a0.size, ((a0[0]'h).toNat : Int) = bt a0 0 := bt_at a0 0
          clear p5
          have qi5 : (0 < (a0.size : Int)) = True := eq_true (of_decide_eq_true (by first | (with_reducible assumption) | assumption))
          replace q5 := eq_true q5
          have p7 : 0 ≤ (0 : Int) := (by omega)
          have q7 : 0 < a0.size := (by have : (0 : Int) < (a0.size : Int) := of_decide_eq_true (by first | (with_reducible assumption) | assumption); omega)
          have hx7 : ∀ h : 0 < a0.size, ((a0[0]'h).toNat : Int) = bt a0 0 := bt_at a0 0
          clear p7
          have qi7 : (0 < (a0.size : Int)) = True := eq_true (of_decide_eq_true (by first | (with_reducible assumption) | assumption))
          replace q7 := eq_true q7
          go_wp2
          go_meet
          case rel => exact ⟨_, (((bt a0 0) == 43)), (by first | rfl | (simp; done) | (simp [*]; done) | (refine congrArg _ ?_; rw [Bool.eq_iff_iff]; simp; done)), H', ⟨by first | omega | exact Nat.le_refl _⟩, by repeat (first | exact Drawn0.refl _ | apply Drawn0.step)⟩
      · rw [if_neg c4] at H
        exact absurd H (by simp)
    · rw [if_neg c3] at H
      have c3b0 : decide (0 < (a0.size : Int)) = false := decide_eq_false c3
      have c3b1 : decide (0 < a0.size) = false := decide_eq_false (by omega)
      clear c3
      (first | rw [c3b0] | (simp only [i64_w, i32_w]; rw [c3b0]) | skip)
      have H' := Aside0.mk H
      clear H
      go_wp2
      go_meet
      case rel => exact ⟨_, (false), (by first | rfl | (simp; done) | (simp [*]; done) | (refine congrArg _ ?_; rw [Bool.eq_iff_iff]; simp; done)), H', ⟨by first | omega | exact Nat.le_refl _⟩, by repeat (first | exact Drawn0.refl _ | apply Drawn0.step)⟩
  case rest =>
    clear HC2
    try clear c2
    try clear p2
    try clear c3
    try clear c3b0
    try clear c3b1
    try clear c4
    try clear c4b0
    try clear c4b1
    try clear p5
    try clear q5
    try clear hx5
    try clear qi5
    try clear c6
    try clear c6b0
    try clear c6b1
    try clear p7
    try clear q7
    try clear hx7
    try clear qi7
    try clear p5
    try clear p7
    try clear q5
    try clear q7
    obtain ⟨kq, x26_1, rfl, HA, HJ1, ⟨mc1, rfl⟩⟩ := hcut
    cases kq with
    | zero => exact absurd HA.out (by simp [epactref17_Time.j0])
    | succ kj1 =>
      have H := HA.out
      clear HA
      simp only [epactref17_Time.j0] at H
      have HC8 := Aside0.mk H
      clear H
      go_upto_if 26 with (fail)
      go_cut [5, 6] (fun v5 v6 wc => ∃ (kq : Nat) (x5_7 : ByteArray) (x6_7 : Int), v5 = .string x5_7 ∧ v6 = .int .i64 x6_7 ∧ Aside0 (epactref17_Time.j1 kq a0 x5_7 x6_7 = some (r1, r2, r3)) ∧ Aside0 (kq ≤ kj1) ∧ Drawn0 w wc)
      case first =>
        have H := HC8.out
        clear HC8
        by_cases c9 : x26_1 = true
        · subst c9
          have H1 : (if 0 < (a0.size : Int) then (if (bt a0 0) = 45 then (if 1 ≤ (a0.size : Int) then (epactref17_Time.j1 kj1 a0 (a0.extract 1 a0.size) (-1)) else (none)) else (if 1 ≤ (a0.size : Int) then (epactref17_Time.j1 kj1 a0 (a0.extract 1 a0.size) 1) else (none))) else (none)) = some (r1, r2, r3) := by rw [if_pos rfl] at H; exact H
          clear H
          have H := H1
          clear H1
          by_cases c10 : 0 < (a0.size : Int)
          · rw [if_pos c10] at H
            have c10b0 : decide (0 < (a0.size : Int)) = true := decide_eq_true c10
            have c10b1 : decide (0 < a0.size) = true := decide_eq_true (by omega)
            clear c10
            (first | rw [c10b0] | (simp only [i64_w, i32_w]; rw [c10b0]) | skip)
            by_cases c12 : (bt a0 0) = 45
            · rw [if_pos c12] at H
              have c12b0 : ((bt a0 0) == 45) = true := beq_iff_eq.mpr c12
              have c12b1 : ((bt a0 0) != 45) = false := bne_eq_false_iff_eq.mpr c12
              clear c12
              by_cases c13 : 1 ≤ (a0.size : Int)
              · rw [if_pos c13] at H
                have c13b0 := eq_true c13
                have c13b1 : decide (1 ≤ (a0.size : Int)) = true := decide_eq_true c13
                clear c13
                have H' := Aside0.mk H
                clear H
                have p11 : 0 ≤ (0 : Int) := (by omega)
                have q11 : 0 < a0.size := (by have : (0 : Int) < (a0.size : Int) := of_decide_eq_true (by first | (with_reducible assumption) | assumption); omega)
                have hx11 : ∀ h : 0 < a0.size, ((a0[0]'h).toNat : Int) = bt a0 0 := bt_at a0 0
                clear p11
                have qi11 : (0 < (a0.size : Int)) = True := eq_true (of_decide_eq_true (by first | (with_reducible assumption) | assumption))
                replace q11 := eq_true q11
                go_wp2
                go_meet
                case rel => exact ⟨_, (a0.extract 1 a0.size), ((-1)), (by first | rfl | (simp; done) | (simp [*]; done) | (refine congrArg _ ?_; rw [Bool.eq_iff_iff]; simp; done)), (by first | rfl | (simp; done) | (simp [*]; done) | (refine congrArg _ ?_; rw [Bool.eq_iff_iff]; simp; done)), H', ⟨by have := HJ1.out; first | omega | exact Nat.le_refl _⟩, by repeat (first | exact Drawn0.refl _ | apply Drawn0.step)⟩
              · rw [if_neg c13] at H
                exact absurd H (by simp)
            · rw [if_neg c12] at H
              have c12b0 : ((bt a0 0) == 45) = false := beq_eq_false_iff_ne.mpr c12
              have c12b1 : ((bt a0 0) != 45) = true := bne_iff_ne.mpr c12
              by_cases c14 : 1 ≤ (a0.size : Int)
              · rw [if_pos c14] at H
                have c14b0 := eq_true c14
                have c14b1 : decide (1 ≤ (a0.size : Int)) = true := decide_eq_true c14
                clear c14
                have H' := Aside0.mk H
                clear H
                have p11 : 0 ≤ (0 : Int) := (by omega)
                have q11 : 0 < a0.size := (by have : (0 : Int) < (a0.size : Int) := of_decide_eq_true (by first | (with_reducible assumption) | assumption); omega)
                have hx11 : ∀ h : 0 < a0.size, ((a0[0]'h).toNat : Int) = bt a0 0 := bt_at a0 0
                clear p11
                have qi11 : (0 < (a0.size : Int)) = True := eq_true (of_decide_eq_true (by first | (with_reducible assumption) | assumption))
                replace q11 := eq_true q11
                go_wp2
                go_meet
                case rel => exact ⟨_, (a0.extract 1 a0.size), (1), (by first | rfl | (simp; done) | (simp [*]; done) | (refine congrArg _ ?_; rw [Bool.eq_iff_iff]; simp; done)), (by first | rfl | (simp; done) | (simp [*]; done) | (refine congrArg _ ?_; rw [Bool.eq_iff_iff]; simp; done)), H', ⟨by have := HJ1.out; first | omega | exact Nat.le_refl _⟩, by repeat (first | exact Drawn0.refl _ | apply Drawn0.step)⟩
              · rw [if_neg c14] at H
                exact absurd H (by simp)
          · rw [if_neg c10] at H
            exact absurd H (by simp)
        · replace c9 := Bool.eq_false_iff.mpr c9
          subst c9
          have H1 : (epactref17_Time.j1 kj1 a0 a0 1) = some (r1, r2, r3) := by rw [if_neg (show ¬ (false = true) by decide)] at H; exact H
          clear H
          have H := H1
          clear H1
          have H' := Aside0.mk H
          clear H
          go_wp2
          go_meet
          case rel => exact ⟨_, (a0), (1), (by first | rfl | (simp; done) | (simp [*]; done) | (refine congrArg _ ?_; rw [Bool.eq_iff_iff]; simp; done)), (by first | rfl | (simp; done) | (simp [*]; done) | (refine congrArg _ ?_; rw [Bool.eq_iff_iff]; simp; done)), H', ⟨by have := HJ1.out; first | omega | exact Nat.le_refl _⟩, by repeat (first | exact Drawn0.refl _ | apply Drawn0.step)⟩
      case rest =>
        clear HC8
        try clear c1
        try clear p1
        try clear q1
        try clear hx1
        try clear qi1
        try clear c2
        try clear p2
        try clear c3
        try clear c3b0
        try clear c3b1
        try clear c4
        try clear c4b0
        try clear c4b1
        try clear p5
        try clear q5
        try clear hx5
        try clear qi5
        try clear c6
        try clear c6b0
        try clear c6b1
        try clear p7
        try clear q7
        try clear hx7
        try clear qi7
        try clear c9
        try clear c10
        try clear c10b0
        try clear c10b1
        try clear p11
        try clear q11
        try clear hx11
        try clear qi11
        try clear c12
        try clear c12b0
        try clear c12b1
        try clear c13
        try clear c13b0
        try clear c13b1
        try clear c14
        try clear c14b0
        try clear c14b1
        try clear p11
        try clear p2
        try clear p5
        try clear p7
        try clear q11
        try clear q5
        try clear q7
        obtain ⟨kq, x5_7, x6_7, rfl, rfl, HA, HJ7, ⟨mc7, rfl⟩⟩ := hcut
        cases kq with
        | zero => exact absurd HA.out (by simp [epactref17_Time.j1])
        | succ kj7 =>
          have H := HA.out
          clear HA
          simp only [epactref17_Time.j1] at H
          have HC15 := Aside0.mk H
          clear H
          go_upto_block 0 with (fail)
          go_cut [7, 8] (fun v7 v8 wc => ∃ (kq : Nat) (x7_14 : Int) (x8_14 : Int), v7 = .int .i64 x7_14 ∧ v8 = .int .i64 x8_14 ∧ Aside0 (epactref17_Time.j3 kq a0 x5_7 x6_7 x7_14 x8_14 = some (r1, r2, r3)) ∧ Aside0 (kq ≤ kj7) ∧ Drawn0 w wc)
          case first =>
            have H := HC15.out
            clear HC15
            have H' := Aside0.mk H
            clear H
            go_wp2
            go_loopg [7, 8] kj7 (fun kq v7 v8 w' => ∃ (x7_3 : Int) (x8_3 : Int), v7 = .int .i64 x7_3 ∧ v8 = .int .i64 x8_3 ∧ Aside0 (epactref17_Time.l0 kq a0 x5_7 x6_7 x7_3 x8_3 = some (r1, r2, r3)) ∧ Aside0 (kq ≤ kj7) ∧ Drawn0 w w')
            case atStart => exact ⟨(0), (0), (by first | rfl | (simp; done) | (simp [*]; done) | (refine congrArg _ ?_; rw [Bool.eq_iff_iff]; simp; done)), (by first | rfl | (simp; done) | (simp [*]; done) | (refine congrArg _ ?_; rw [Bool.eq_iff_iff]; simp; done)), H', ⟨Nat.le_refl _⟩, by repeat (first | exact Drawn0.refl _ | apply Drawn0.step)⟩
            case round =>
              clear H'
              try clear c1
              try clear p1
              try clear q1
              try clear hx1
              try clear qi1
              try clear c2
              try clear p2
              try clear c3
              try clear c3b0
              try clear c3b1
              try clear c4
              try clear c4b0
              try clear c4b1
              try clear p5
              try clear q5
              try clear hx5
              try clear qi5
              try clear c6
              try clear c6b0
              try clear c6b1
              try clear c7
              try clear p7
              try clear q7
              try clear hx7
              try clear qi7
              try clear c9
              try clear c10
              try clear c10b0
              try clear c10b1
              try clear p11
              try clear q11
              try clear hx11
              try clear qi11
              try clear c12
              try clear c12b0
              try clear c12b1
              try clear c13
              try clear c13b0
              try clear c13b1
              try clear c14
              try clear c14b0
              try clear c14b1
              try clear p1
              try clear p11
              try clear p2
              try clear p5
              try clear p7
              try clear q1
              try clear q11
              try clear q5
              try clear q7
              obtain ⟨x7_3, x8_3, rfl, rfl, HA, HK3, ⟨m3, rfl⟩⟩ := hrel
              cases gk with
              | zero => exact absurd HA.out (by simp [epactref17_Time.l0])
              | succ k3 =>
                have H := HA.out
                clear HA
                simp only [epactref17_Time.l0] at H
                by_cases c16 : x7_3 < (x5_7.size : Int)
                · rw [if_pos c16] at H
                  have c16b0 : decide (x7_3 < (x5_7.size : Int)) = true := decide_eq_true c16
                  clear c16
                  (first | rw [c16b0] | (simp only [i64_w, i32_w]; rw [c16b0]) | skip)
                  by_cases c17 : x7_3 < 3
                  · rw [if_pos c17] at H
                    have c17b0 : decide (x7_3 < 3) = true := decide_eq_true c17
                    clear c17
                    by_cases c18 : 0 ≤ x7_3
                    · rw [if_pos c18] at H
                      have c18b0 : decide (0 ≤ x7_3) = true := decide_eq_true c18
                      clear c18
                      by_cases c20 : (bt x5_7 x7_3) ≥ 48
                      · rw [if_pos c20] at H
                        have c20b0 : decide (48 ≤ (bt x5_7 x7_3)) = true := decide_eq_true c20
                        clear c20
                        by_cases c22 : (bt x5_7 x7_3) ≤ 57
                        · rw [if_pos c22] at H
                          have c22b0 : decide ((bt x5_7 x7_3) ≤ 57) = true := decide_eq_true c22
                          clear c22
                          by_cases c24 : (wrap64 ((wrap64 (10 * x8_3)) + (((bt x5_7 x7_3) - 48) % 256))) ≤ 167
                          · rw [if_pos c24] at H
                            have c24b0 : decide ((wrap64 ((wrap64 (10 * x8_3)) + (((bt x5_7 x7_3) - 48) % 256))) ≤ 167) = true := decide_eq_true c24
                            clear c24
                            have H' := Aside0.mk H
                            clear H
                            have p19 : 0 ≤ (x7_3 : Int) := of_decide_eq_true (by first | (with_reducible assumption) | assumption)
                            have q19 : x7_3 < (x5_7.size : Int) := of_decide_eq_true (by first | (with_reducible assumption) | assumption)
                            have hx19 := bt_at x5_7 x7_3
                            replace p19 := eq_true p19
                            replace q19 := eq_true q19
                            have p21 : 0 ≤ (x7_3 : Int) := of_decide_eq_true (by first | (with_reducible assumption) | assumption)
                            have q21 : x7_3 < (x5_7.size : Int) := of_decide_eq_true (by first | (with_reducible assumption) | assumption)
                            have hx21 := bt_at x5_7 x7_3
                            replace p21 := eq_true p21
                            replace q21 := eq_true q21
                            have p23 : 0 ≤ (x7_3 : Int) := of_decide_eq_true (by first | (with_reducible assumption) | assumption)
                            have q23 : x7_3 < (x5_7.size : Int) := of_decide_eq_true (by first | (with_reducible assumption) | assumption)
                            have hx23 := bt_at x5_7 x7_3
                            replace p23 := eq_true p23
                            replace q23 := eq_true q23
                            have p25 : 0 ≤ (x7_3 : Int) := of_decide_eq_true (by first | (with_reducible assumption) | assumption)
                            have q25 : x7_3 < (x5_7.size : Int) := of_decide_eq_true (by first | (with_reducible assumption) | assumption)
                            have hx25 := bt_at x5_7 x7_3
                            replace p25 := eq_true p25
                            replace q25 := eq_true q25
                            go_wp2
                            go_roundg k3
                            case measure => have := HJ1.out; have := HJ7.out; have := HK3.out; omega
                            case rel => exact ⟨(wrap64 (x7_3 + 1)), (wrap64 ((wrap64 (10 * x8_3)) + (((bt x5_7 x7_3) - 48) % 256))), (by first | rfl | (simp; done) | (simp [*]; done) | (refine congrArg _ ?_; rw [Bool.eq_iff_iff]; simp; done)), (by first | rfl | (simp; done) | (simp [*]; done) | (refine congrArg _ ?_; rw [Bool.eq_iff_iff]; simp; done)), H', ⟨by have := HJ1.out; have := HJ7.out; have := HK3.out; omega⟩, by repeat (first | exact Drawn0.refl _ | apply Drawn0.step)⟩
                          · rw [if_neg c24] at H
                            have c24b0 : decide ((wrap64 ((wrap64 (10 * x8_3)) + (((bt x5_7 x7_3) - 48) % 256))) ≤ 167) = false := decide_eq_false c24
                            clear c24
                            have H' := Aside0.mk H
                            clear H
                            have p19 : 0 ≤ (x7_3 : Int) := of_decide_eq_true (by first | (with_reducible assumption) | assumption)
                            have q19 : x7_3 < (x5_7.size : Int) := of_decide_eq_true (by first | (with_reducible assumption) | assumption)
                            have hx19 := bt_at x5_7 x7_3
                            replace p19 := eq_true p19
                            replace q19 := eq_true q19
                            have p21 : 0 ≤ (x7_3 : Int) := of_decide_eq_true (by first | (with_reducible assumption) | assumption)
                            have q21 : x7_3 < (x5_7.size : Int) := of_decide_eq_true (by first | (with_reducible assumption) | assumption)
                            have hx21 := bt_at x5_7 x7_3
                            replace p21 := eq_true p21
                            replace q21 := eq_true q21
                            have p23 : 0 ≤ (x7_3 : Int) := of_decide_eq_true (by first | (with_reducible assumption) | assumption)
                            have q23 : x7_3 < (x5_7.size : Int) := of_decide_eq_true (by first | (with_reducible assumption) | assumption)
                            have hx23 := bt_at x5_7 x7_3
                            replace p23 := eq_true p23
                            replace q23 := eq_true q23
                            go_wp2
                            go_meet
                            case rel => exact ⟨_, (x7_3), (x8_3), (by first | rfl | (simp; done) | (simp [*]; done) | (refine congrArg _ ?_; rw [Bool.eq_iff_iff]; simp; done)), (by first | rfl | (simp; done) | (simp [*]; done) | (refine congrArg _ ?_; rw [Bool.eq_iff_iff]; simp; done)), H', ⟨by have := HJ1.out; have := HJ7.out; have := HK3.out; first | omega | exact Nat.le_refl _⟩, by repeat (first | exact Drawn0.refl _ | apply Drawn0.step)⟩
                        · rw [if_neg c22] at H
                          have c22b0 : decide ((bt x5_7 x7_3) ≤ 57) = false := decide_eq_false c22
                          clear c22
                          have H' := Aside0.mk H
                          clear H
                          have p19 : 0 ≤ (x7_3 : Int) := of_decide_eq_true (by first | (with_reducible assumption) | assumption)
                          have q19 : x7_3 < (x5_7.size : Int) := of_decide_eq_true (by first | (with_reducible assumption) | assumption)
                          have hx19 := bt_at x5_7 x7_3
                          replace p19 := eq_true p19
                          replace q19 := eq_true q19
                          have p21 : 0 ≤ (x7_3 : Int) := of_decide_eq_true (by first | (with_reducible assumption) | assumption)
                          have q21 : x7_3 < (x5_7.size : Int) := of_decide_eq_true (by first | (with_reducible assumption) | assumption)
                          have hx21 := bt_at x5_7 x7_3
                          replace p21 := eq_true p21
                          replace q21 := eq_true q21
                          go_wp2
                          go_meet
                          case rel => exact ⟨_, (x7_3), (x8_3), (by first | rfl | (simp; done) | (simp [*]; done) | (refine congrArg _ ?_; rw [Bool.eq_iff_iff]; simp; done)), (by first | rfl | (simp; done) | (simp [*]; done) | (refine congrArg _ ?_; rw [Bool.eq_iff_iff]; simp; done)), H', ⟨by have := HJ1.out; have := HJ7.out; have := HK3.out; first | omega | exact Nat.le_refl _⟩, by repeat (first | exact Drawn0.refl _ | apply Drawn0.step)⟩
                      · rw [if_neg c20] at H
                        have c20b0 : decide (48 ≤ (bt x5_7 x7_3)) = false := decide_eq_false c20
                        clear c20
                        have H' := Aside0.mk H
                        clear H
                        have p19 : 0 ≤ (x7_3 : Int) := of_decide_eq_true (by first | (with_reducible assumption) | assumption)
                        have q19 : x7_3 < (x5_7.size : Int) := of_decide_eq_true (by first | (with_reducible assumption) | assumption)
                        have hx19 := bt_at x5_7 x7_3
                        replace p19 := eq_true p19
                        replace q19 := eq_true q19
                        go_wp2
                        go_meet
                        case rel => exact ⟨_, (x7_3), (x8_3), (by first | rfl | (simp; done) | (simp [*]; done) | (refine congrArg _ ?_; rw [Bool.eq_iff_iff]; simp; done)), (by first | rfl | (simp; done) | (simp [*]; done) | (refine congrArg _ ?_; rw [Bool.eq_iff_iff]; simp; done)), H', ⟨by have := HJ1.out; have := HJ7.out; have := HK3.out; first | omega | exact Nat.le_refl _⟩, by repeat (first | exact Drawn0.refl _ | apply Drawn0.step)⟩
                    · rw [if_neg c18] at H
                      exact absurd H (by simp)
                  · rw [if_neg c17] at H
                    have c17b0 : decide (x7_3 < 3) = false := decide_eq_false c17
                    clear c17
                    have H' := Aside0.mk H
                    clear H
                    go_wp2
                    go_meet
                    case rel => exact ⟨_, (x7_3), (x8_3), (by first | rfl | (simp; done) | (simp [*]; done) | (refine congrArg _ ?_; rw [Bool.eq_iff_iff]; simp; done)), (by first | rfl | (simp; done) | (simp [*]; done) | (refine congrArg _ ?_; rw [Bool.eq_iff_iff]; simp; done)), H', ⟨by have := HJ1.out; have := HJ7.out; have := HK3.out; first | omega | exact Nat.le_refl _⟩, by repeat (first | exact Drawn0.refl _ | apply Drawn0.step)⟩
                · rw [if_neg c16] at H
                  have c16b0 : decide (x7_3 < (x5_7.size : Int)) = false := decide_eq_false c16
                  clear c16
                  (first | rw [c16b0] | (simp only [i64_w, i32_w]; rw [c16b0]) | skip)
                  have H' := Aside0.mk H
                  clear H
                  go_wp2
                  go_meet
                  case rel => exact ⟨_, (x7_3), (x8_3), (by first | rfl | (simp; done) | (simp [*]; done) | (refine congrArg _ ?_; rw [Bool.eq_iff_iff]; simp; done)), (by first | rfl | (simp; done) | (simp [*]; done) | (refine congrArg _ ?_; rw [Bool.eq_iff_iff]; simp; done)), H', ⟨by have := HJ1.out; have := HJ7.out; have := HK3.out; first | omega | exact Nat.le_refl _⟩, by repeat (first | exact Drawn0.refl _ | apply Drawn0.step)⟩
          case rest =>
            clear HC15
            try clear c1
            try clear p1
            try clear q1
            try clear hx1
            try clear qi1
            try clear c2
            try clear p2
            try clear q2
            try clear hx2
            try clear c3
            try clear c3b0
            try clear c3b1
            try clear c4
            try clear c4b0
            try clear c4b1
            try clear p5
            try clear q5
            try clear hx5
            try clear qi5
            try clear c6
            try clear c6b0
            try clear c6b1
            try clear p6
            try clear c7
            try clear p7
            try clear q7
            try clear hx7
            try clear qi7
            try clear c9
            try clear c10
            try clear c10b0
            try clear c10b1
            try clear p11
            try clear q11
            try clear hx11
            try clear qi11
            try clear c12
            try clear c12b0
            try clear c12b1
            try clear c13
            try clear c13b0
            try clear c13b1
            try clear c14
            try clear c14b0
            try clear c14b1
            try clear c16
            try clear c16b0
            try clear c17
            try clear c17b0
            try clear c18
            try clear c18b0
            try clear p19
            try clear q19
            try clear hx19
            try clear c20
            try clear c20b0
            try clear p21
            try clear q21
            try clear hx21
            try clear c22
            try clear c22b0
            try clear p23
            try clear q23
            try clear hx23
            try clear c24
            try clear c24b0
            try clear c25
            try clear p25
            try clear q25
            try clear hx25
            try clear p1
            try clear p11
            try clear p19
            try clear p2
            try clear p21
            try clear p23
            try clear p25
            try clear p5
            try clear p7
            try clear q1
            try clear q11
            try clear q19
            try clear q21
            try clear q23
            try clear q25
            try clear q5
            try clear q7
            obtain ⟨kq, x7_14, x8_14, rfl, rfl, HA, HJ14, ⟨mc14, rfl⟩⟩ := hcut
            cases kq with
            | zero => exact absurd HA.out (by simp [epactref17_Time.j3])
            | succ kj14 =>
              have H := HA.out
              clear HA
              simp only [epactref17_Time.j3] at H
              by_cases c26 : x7_14 = 0
              · rw [if_pos c26] at H
                have c26b0 : (x7_14 == 0) = true := beq_iff_eq.mpr c26
                have c26b1 : (x7_14 != 0) = false := bne_eq_false_iff_eq.mpr c26
                clear c26
                simp only [Option.some.injEq, Prod.mk.injEq] at H
                obtain ⟨rfl, rfl, rfl⟩ := H
                go_wp2
                go_ret3
                exact ⟨by first | rfl | (simp; done) | (simp [*]; done) | (refine congrArg _ ?_; rw [Bool.eq_iff_iff]; simp; done), by repeat (first | exact Drawn0.refl _ | apply Drawn0.step)⟩
              · rw [if_neg c26] at H
                have c26b0 : (x7_14 == 0) = false := beq_eq_false_iff_ne.mpr c26
                have c26b1 : (x7_14 != 0) = true := bne_iff_ne.mpr c26
                by_cases c27 : 0 ≤ x7_14
                · rw [if_pos c27] at H
                  have c27b0 := eq_true c27
                  have c27b1 : decide (0 ≤ x7_14) = true := decide_eq_true c27
                  clear c27
                  by_cases c28 : x7_14 ≤ (x5_7.size : Int)
                  · rw [if_pos c28] at H
                    have c28b0 := eq_true c28
                    have c28b1 : decide (x7_14 ≤ (x5_7.size : Int)) = true := decide_eq_true c28
                    clear c28
                    replace H := Option.bind_eq_some_iff.mp H
                    obtain ⟨⟨t282, t283⟩, A290, H⟩ := H
                    replace H : (if t282 < 0 then (some (wrap64 ((wrap64 (x6_7 * 3600)) * x8_14), x5_7.extract (x7_14 : Int).toNat x5_7.size, true)) else ((epactref17_two.f t283).bind fun bt284 => (if bt284.1 < 0 then (some (wrap64 (x6_7 * (wrap64 ((wrap64 (3600 * x8_14)) + (wrap64 (60 * t282))))), t283, true)) else (some (wrap64 (x6_7 * (wrap64 ((wrap64 ((wrap64 (3600 * x8_14)) + (wrap64 (60 * t282)))) + bt284.1))), bt284.2, true))))) = some (r1, r2, r3) := H
                    have A29 := Aside0.mk A290
                    clear A290
                    by_cases c30 : t282 < 0
                    · rw [if_pos c30] at H
                      have c30b0 : decide (t282 < 0) = true := decide_eq_true c30
                      clear c30
                      simp only [Option.some.injEq, Prod.mk.injEq] at H
                      obtain ⟨rfl, rfl, rfl⟩ := H
                      go_wp2_with (first | ((with_reducible refine gate_callee (f := 51) rfl ?_); refine goesL_ (some 81) rfl rfl Tryd.func51 (by kernel_rfl) rfl #[.string (x5_7.extract (x7_14 : Int).toNat x5_7.size)] rfl (by (try simp only [List.map_toArray, List.map_cons, List.map_nil]); first | done | rfl | (simp only [List.length_drop, List.length_take]; rfl)) ?_; (with_reducible refine (epactref17_two.calls (x5_7.extract (x7_14 : Int).toNat x5_7.size) t282 t283 _ ?side731 A29.out).mono ?_); (case side731 => first | exact hG | exact hG.drewN _ | (refine hG.drawn ?_; repeat (first | exact Drawn0.refl _ | assumption | apply Drawn0.step))); rintro e w' ⟨rfl, ⟨nd, rfl⟩⟩; refine ⟨_, rfl, ?_⟩))
                      go_ret3
                      exact ⟨by first | rfl | (simp; done) | (simp [*]; done) | (refine congrArg _ ?_; rw [Bool.eq_iff_iff]; simp; done), by repeat (first | exact Drawn0.refl _ | apply Drawn0.step)⟩
                    · rw [if_neg c30] at H
                      have c30b0 : decide (t282 < 0) = false := decide_eq_false c30
                      clear c30
                      replace H := Option.bind_eq_some_iff.mp H
                      obtain ⟨⟨t284, t285⟩, A320, H⟩ := H
                      replace H : (if t284 < 0 then (some (wrap64 (x6_7 * (wrap64 ((wrap64 (3600 * x8_14)) + (wrap64 (60 * t282))))), t283, true)) else (some (wrap64 (x6_7 * (wrap64 ((wrap64 ((wrap64 (3600 * x8_14)) + (wrap64 (60 * t282)))) + t284))), t285, true))) = some (r1, r2, r3) := H
                      have A32 := Aside0.mk A320
                      clear A320
                      by_cases c33 : t284 < 0
                      · rw [if_pos c33] at H
                        have c33b0 : decide (t284 < 0) = true := decide_eq_true c33
                        clear c33
                        simp only [Option.some.injEq, Prod.mk.injEq] at H
                        obtain ⟨rfl, rfl, rfl⟩ := H
                        go_wp2_with (first | ((with_reducible refine gate_callee (f := 51) rfl ?_); refine goesL_ (some 81) rfl rfl Tryd.func51 (by kernel_rfl) rfl #[.string (x5_7.extract (x7_14 : Int).toNat x5_7.size)] rfl (by (try simp only [List.map_toArray, List.map_cons, List.map_nil]); first | done | rfl | (simp only [List.length_drop, List.length_take]; rfl)) ?_; (with_reducible refine (epactref17_two.calls (x5_7.extract (x7_14 : Int).toNat x5_7.size) t282 t283 _ ?side734 A29.out).mono ?_); (case side734 => first | exact hG | exact hG.drewN _ | (refine hG.drawn ?_; repeat (first | exact Drawn0.refl _ | assumption | apply Drawn0.step))); rintro e w' ⟨rfl, ⟨nd, rfl⟩⟩; refine ⟨_, rfl, ?_⟩) | ((with_reducible refine gate_callee (f := 51) rfl ?_); refine goesL_ (some 93) rfl rfl Tryd.func51 (by kernel_rfl) rfl #[.string t283] rfl (by (try simp only [List.map_toArray, List.map_cons, List.map_nil]); first | done | rfl | (simp only [List.length_drop, List.length_take]; rfl)) ?_; (with_reducible refine (epactref17_two.calls t283 t284 t285 _ ?side735 A32.out).mono ?_); (case side735 => first | exact hG | exact hG.drewN _ | (refine hG.drawn ?_; repeat (first | exact Drawn0.refl _ | assumption | apply Drawn0.step))); rintro e w' ⟨rfl, ⟨nd, rfl⟩⟩; refine ⟨_, rfl, ?_⟩))
                        go_ret3
                        exact ⟨by first | rfl | (simp; done) | (simp [*]; done) | (refine congrArg _ ?_; rw [Bool.eq_iff_iff]; simp; done), by repeat (first | exact Drawn0.refl _ | apply Drawn0.step)⟩
                      · rw [if_neg c33] at H
                        have c33b0 : decide (t284 < 0) = false := decide_eq_false c33
                        clear c33
                        simp only [Option.some.injEq, Prod.mk.injEq] at H
                        obtain ⟨rfl, rfl, rfl⟩ := H
                        go_wp2_with (first | ((with_reducible refine gate_callee (f := 51) rfl ?_); refine goesL_ (some 81) rfl rfl Tryd.func51 (by kernel_rfl) rfl #[.string (x5_7.extract (x7_14 : Int).toNat x5_7.size)] rfl (by (try simp only [List.map_toArray, List.map_cons, List.map_nil]); first | done | rfl | (simp only [List.length_drop, List.length_take]; rfl)) ?_; (with_reducible refine (epactref17_two.calls (x5_7.extract (x7_14 : Int).toNat x5_7.size) t282 t283 _ ?side736 A29.out).mono ?_); (case side736 => first | exact hG | exact hG.drewN _ | (refine hG.drawn ?_; repeat (first | exact Drawn0.refl _ | assumption | apply Drawn0.step))); rintro e w' ⟨rfl, ⟨nd, rfl⟩⟩; refine ⟨_, rfl, ?_⟩) | ((with_reducible refine gate_callee (f := 51) rfl ?_); refine goesL_ (some 93) rfl rfl Tryd.func51 (by kernel_rfl) rfl #[.string t283] rfl (by (try simp only [List.map_toArray, List.map_cons, List.map_nil]); first | done | rfl | (simp only [List.length_drop, List.length_take]; rfl)) ?_; (with_reducible refine (epactref17_two.calls t283 t284 t285 _ ?side737 A32.out).mono ?_); (case side737 => first | exact hG | exact hG.drewN _ | (refine hG.drawn ?_; repeat (first | exact Drawn0.refl _ | assumption | apply Drawn0.step))); rintro e w' ⟨rfl, ⟨nd, rfl⟩⟩; refine ⟨_, rfl, ?_⟩))
                        go_ret3
                        exact ⟨by first | rfl | (simp; done) | (simp [*]; done) | (refine congrArg _ ?_; rw [Bool.eq_iff_iff]; simp; done), by repeat (first | exact Drawn0.refl _ | apply Drawn0.step)⟩
                  · rw [if_neg c28] at H
                    exact absurd H (by simp)
                · rw [if_neg c27] at H
                  exact absurd H (by simp)

end Go.Proofs.YtghjemcbkackjaaDoor.P
