-- written by this project's program mkprint.py out of the translation; Lean checks it
import Derived.Test.YtghjemcbkackjaaDoorPx0
import Derived.Test.YtghjemcbkackjaaDoorPx7
namespace Go.Proofs.YtghjemcbkackjaaDoor.P
open Go.Proofs.YtghjemcbkackjaaDoor.F
open Go.RowKit Go.Proofs.YtghjemcbkackjaaDoorW.PrintWords Go.Proofs.YtghjemcbkackjaaDoorW.PrintLast Go.Proofs.YtghjemcbkackjaaDoorW.PrintMore
attribute [local go_sem] max2_int min2_int max_two min_two max_three min_three max_four min_four   -- for this text's walks alone
set_option linter.unusedVariables false
set_option linter.unusedSimpArgs false

/-! ### day_Date: function 36 -/
def day_Date.j0 : Nat → Int → Bool → Option (Int × Int × Int × Bool)
  | 0, _, _ => none
  | k + 1, x0, x15 => if x15 = true then (some (0, 0, 0, false)) else ((num_Div.f (wrap64 (x0 + 719468)) 146097).bind fun bt457 => (if (wrap64 ((wrap64 (Int.tdiv (wrap64 ((wrap64 (5 * (wrap64 (bt457.2.1 - (wrap64 ((wrap64 ((wrap64 (365 * (wrap64 (Int.tdiv (wrap64 ((wrap64 ((wrap64 (bt457.2.1 - (wrap64 (Int.tdiv bt457.2.1 1460)))) + (wrap64 (Int.tdiv bt457.2.1 36524)))) - (wrap64 (Int.tdiv bt457.2.1 146096)))) 365)))) + (wrap64 (Int.tdiv (wrap64 (Int.tdiv (wrap64 ((wrap64 ((wrap64 (bt457.2.1 - (wrap64 (Int.tdiv bt457.2.1 1460)))) + (wrap64 (Int.tdiv bt457.2.1 36524)))) - (wrap64 (Int.tdiv bt457.2.1 146096)))) 365)) 4)))) - (wrap64 (Int.tdiv (wrap64 (Int.tdiv (wrap64 ((wrap64 ((wrap64 (bt457.2.1 - (wrap64 (Int.tdiv bt457.2.1 1460)))) + (wrap64 (Int.tdiv bt457.2.1 36524)))) - (wrap64 (Int.tdiv bt457.2.1 146096)))) 365)) 100)))))))) + 2)) 153)) + 3)) > 12 then (some (wrap64 ((wrap64 (400 * bt457.1)) + (wrap64 ((wrap64 (Int.tdiv (wrap64 ((wrap64 ((wrap64 (bt457.2.1 - (wrap64 (Int.tdiv bt457.2.1 1460)))) + (wrap64 (Int.tdiv bt457.2.1 36524)))) - (wrap64 (Int.tdiv bt457.2.1 146096)))) 365)) + 1))), wrap64 ((wrap64 ((wrap64 (Int.tdiv (wrap64 ((wrap64 (5 * (wrap64 (bt457.2.1 - (wrap64 ((wrap64 ((wrap64 (365 * (wrap64 (Int.tdiv (wrap64 ((wrap64 ((wrap64 (bt457.2.1 - (wrap64 (Int.tdiv bt457.2.1 1460)))) + (wrap64 (Int.tdiv bt457.2.1 36524)))) - (wrap64 (Int.tdiv bt457.2.1 146096)))) 365)))) + (wrap64 (Int.tdiv (wrap64 (Int.tdiv (wrap64 ((wrap64 ((wrap64 (bt457.2.1 - (wrap64 (Int.tdiv bt457.2.1 1460)))) + (wrap64 (Int.tdiv bt457.2.1 36524)))) - (wrap64 (Int.tdiv bt457.2.1 146096)))) 365)) 4)))) - (wrap64 (Int.tdiv (wrap64 (Int.tdiv (wrap64 ((wrap64 ((wrap64 (bt457.2.1 - (wrap64 (Int.tdiv bt457.2.1 1460)))) + (wrap64 (Int.tdiv bt457.2.1 36524)))) - (wrap64 (Int.tdiv bt457.2.1 146096)))) 365)) 100)))))))) + 2)) 153)) + 3)) - 12), wrap64 ((wrap64 ((wrap64 (bt457.2.1 - (wrap64 ((wrap64 ((wrap64 (365 * (wrap64 (Int.tdiv (wrap64 ((wrap64 ((wrap64 (bt457.2.1 - (wrap64 (Int.tdiv bt457.2.1 1460)))) + (wrap64 (Int.tdiv bt457.2.1 36524)))) - (wrap64 (Int.tdiv bt457.2.1 146096)))) 365)))) + (wrap64 (Int.tdiv (wrap64 (Int.tdiv (wrap64 ((wrap64 ((wrap64 (bt457.2.1 - (wrap64 (Int.tdiv bt457.2.1 1460)))) + (wrap64 (Int.tdiv bt457.2.1 36524)))) - (wrap64 (Int.tdiv bt457.2.1 146096)))) 365)) 4)))) - (wrap64 (Int.tdiv (wrap64 (Int.tdiv (wrap64 ((wrap64 ((wrap64 (bt457.2.1 - (wrap64 (Int.tdiv bt457.2.1 1460)))) + (wrap64 (Int.tdiv bt457.2.1 36524)))) - (wrap64 (Int.tdiv bt457.2.1 146096)))) 365)) 100)))))) - (wrap64 (Int.tdiv (wrap64 ((wrap64 (153 * (wrap64 (Int.tdiv (wrap64 ((wrap64 (5 * (wrap64 (bt457.2.1 - (wrap64 ((wrap64 ((wrap64 (365 * (wrap64 (Int.tdiv (wrap64 ((wrap64 ((wrap64 (bt457.2.1 - (wrap64 (Int.tdiv bt457.2.1 1460)))) + (wrap64 (Int.tdiv bt457.2.1 36524)))) - (wrap64 (Int.tdiv bt457.2.1 146096)))) 365)))) + (wrap64 (Int.tdiv (wrap64 (Int.tdiv (wrap64 ((wrap64 ((wrap64 (bt457.2.1 - (wrap64 (Int.tdiv bt457.2.1 1460)))) + (wrap64 (Int.tdiv bt457.2.1 36524)))) - (wrap64 (Int.tdiv bt457.2.1 146096)))) 365)) 4)))) - (wrap64 (Int.tdiv (wrap64 (Int.tdiv (wrap64 ((wrap64 ((wrap64 (bt457.2.1 - (wrap64 (Int.tdiv bt457.2.1 1460)))) + (wrap64 (Int.tdiv bt457.2.1 36524)))) - (wrap64 (Int.tdiv bt457.2.1 146096)))) 365)) 100)))))))) + 2)) 153)))) + 2)) 5)))) + 1), true)) else (some (wrap64 ((wrap64 (400 * bt457.1)) + (wrap64 (Int.tdiv (wrap64 ((wrap64 ((wrap64 (bt457.2.1 - (wrap64 (Int.tdiv bt457.2.1 1460)))) + (wrap64 (Int.tdiv bt457.2.1 36524)))) - (wrap64 (Int.tdiv bt457.2.1 146096)))) 365))), wrap64 ((wrap64 (Int.tdiv (wrap64 ((wrap64 (5 * (wrap64 (bt457.2.1 - (wrap64 ((wrap64 ((wrap64 (365 * (wrap64 (Int.tdiv (wrap64 ((wrap64 ((wrap64 (bt457.2.1 - (wrap64 (Int.tdiv bt457.2.1 1460)))) + (wrap64 (Int.tdiv bt457.2.1 36524)))) - (wrap64 (Int.tdiv bt457.2.1 146096)))) 365)))) + (wrap64 (Int.tdiv (wrap64 (Int.tdiv (wrap64 ((wrap64 ((wrap64 (bt457.2.1 - (wrap64 (Int.tdiv bt457.2.1 1460)))) + (wrap64 (Int.tdiv bt457.2.1 36524)))) - (wrap64 (Int.tdiv bt457.2.1 146096)))) 365)) 4)))) - (wrap64 (Int.tdiv (wrap64 (Int.tdiv (wrap64 ((wrap64 ((wrap64 (bt457.2.1 - (wrap64 (Int.tdiv bt457.2.1 1460)))) + (wrap64 (Int.tdiv bt457.2.1 36524)))) - (wrap64 (Int.tdiv bt457.2.1 146096)))) 365)) 100)))))))) + 2)) 153)) + 3), wrap64 ((wrap64 ((wrap64 (bt457.2.1 - (wrap64 ((wrap64 ((wrap64 (365 * (wrap64 (Int.tdiv (wrap64 ((wrap64 ((wrap64 (bt457.2.1 - (wrap64 (Int.tdiv bt457.2.1 1460)))) + (wrap64 (Int.tdiv bt457.2.1 36524)))) - (wrap64 (Int.tdiv bt457.2.1 146096)))) 365)))) + (wrap64 (Int.tdiv (wrap64 (Int.tdiv (wrap64 ((wrap64 ((wrap64 (bt457.2.1 - (wrap64 (Int.tdiv bt457.2.1 1460)))) + (wrap64 (Int.tdiv bt457.2.1 36524)))) - (wrap64 (Int.tdiv bt457.2.1 146096)))) 365)) 4)))) - (wrap64 (Int.tdiv (wrap64 (Int.tdiv (wrap64 ((wrap64 ((wrap64 (bt457.2.1 - (wrap64 (Int.tdiv bt457.2.1 1460)))) + (wrap64 (Int.tdiv bt457.2.1 36524)))) - (wrap64 (Int.tdiv bt457.2.1 146096)))) 365)) 100)))))) - (wrap64 (Int.tdiv (wrap64 ((wrap64 (153 * (wrap64 (Int.tdiv (wrap64 ((wrap64 (5 * (wrap64 (bt457.2.1 - (wrap64 ((wrap64 ((wrap64 (365 * (wrap64 (Int.tdiv (wrap64 ((wrap64 ((wrap64 (bt457.2.1 - (wrap64 (Int.tdiv bt457.2.1 1460)))) + (wrap64 (Int.tdiv bt457.2.1 36524)))) - (wrap64 (Int.tdiv bt457.2.1 146096)))) 365)))) + (wrap64 (Int.tdiv (wrap64 (Int.tdiv (wrap64 ((wrap64 ((wrap64 (bt457.2.1 - (wrap64 (Int.tdiv bt457.2.1 1460)))) + (wrap64 (Int.tdiv bt457.2.1 36524)))) - (wrap64 (Int.tdiv bt457.2.1 146096)))) 365)) 4)))) - (wrap64 (Int.tdiv (wrap64 (Int.tdiv (wrap64 ((wrap64 ((wrap64 (bt457.2.1 - (wrap64 (Int.tdiv bt457.2.1 1460)))) + (wrap64 (Int.tdiv bt457.2.1 36524)))) - (wrap64 (Int.tdiv bt457.2.1 146096)))) 365)) 100)))))))) + 2)) 153)))) + 2)) 5)))) + 1), true))))
def day_Date.f (k : Nat) (a0 : Int) : Option (Int × Int × Int × Bool) := if a0 < (-719162) then (day_Date.j0 k a0 true) else (day_Date.j0 k a0 (decide (a0 > 2932896)))
theorem day_Date.mono_l : ∀ k, (∀ y0 y1, LeO (day_Date.j0 k y0 y1) (day_Date.j0 (k + 1) y0 y1))
  | 0 => fun _ _ r h => by simp [day_Date.j0] at h
  | k + 1 => by
    have ih0 := day_Date.mono_l k
    · intro y0 y1
      unfold day_Date.j0
      repeat' first
      | (with_reducible exact ih0 _ _)
      | (with_reducible exact LeO.refl _)
      | (with_reducible exact LeO.none _)
      | (with_reducible refine LeO.ite ?_ ?_)
      | (with_reducible refine LeO.bind ?_ (fun _ => ?_))
      | exact ih0 _ _
      | exact LeO.none _
      | refine LeO.ite ?_ ?_
      | refine LeO.bind ?_ (fun _ => ?_)
theorem day_Date.mono : ∀ a0 k, LeO (day_Date.f k a0) (day_Date.f (k + 1) a0) := by
  intro a0 k
  have ih0 := day_Date.mono_l k
  unfold day_Date.f
  repeat' first
      | (with_reducible exact ih0 _ _)
      | (with_reducible exact LeO.refl _)
      | (with_reducible exact LeO.none _)
      | (with_reducible refine LeO.ite ?_ ?_)
      | (with_reducible refine LeO.bind ?_ (fun _ => ?_))
      | exact ih0 _ _
      | exact LeO.none _
      | refine LeO.ite ?_ ?_
      | refine LeO.bind ?_ (fun _ => ?_)
set_option maxHeartbeats 8000000 in
set_option maxRecDepth 100000 in
theorem day_Date.calls (k : Nat) (a0 : Int) (r1 : Int) (r2 : Int) (r3 : Int) (r4 : Bool) (w : World) (hG : GW w) (h : day_Date.f k a0 = some (r1, r2, r3, r4)) :
    Calls Tryd.prog 36 #[.int .i64 a0] w fun e w' => e = .returned (.tuple #[.int .i64 r1, .int .i64 r2, .int .i64 r3, .bool r4]) ∧ Drawn0 w w' := by
  have H : (if a0 < (-719162) then (day_Date.j0 k a0 true) else (day_Date.j0 k a0 (decide (a0 > 2932896)))) = some (r1, r2, r3, r4) := h
  clear h
  have HC2 := Aside0.mk H
  clear H
  go_enter Tryd.func36, Tryd.ntmps36
  go_upto_region 1 with (fail)
  go_cut [15] (fun v15 wc => ∃ (kq : Nat) (x15_1 : Bool), v15 = .bool x15_1 ∧ Aside0 (day_Date.j0 kq a0 x15_1 = some (r1, r2, r3, r4)) ∧ Aside0 (kq ≤ k) ∧ Drawn0 w wc)
  case first =>
    have H := HC2.out
    clear HC2
    by_cases c3 : a0 < (-719162)
    · rw [if_pos c3] at H
      have c3b0 : decide (a0 < (-719162)) = true := decide_eq_true c3
      clear c3
      (first | rw [c3b0] | (simp only [i64_w, i32_w]; rw [c3b0]) | skip)
      have H' := Aside0.mk H
      clear H
      go_wp2
      go_meet
      case rel => exact ⟨_, (true), (by first | rfl | (simp; done) | (simp [*]; done) | (refine congrArg _ ?_; rw [Bool.eq_iff_iff]; simp; done)), H', ⟨by first | omega | exact Nat.le_refl _⟩, by repeat (first | exact Drawn0.refl _ | apply Drawn0.step)⟩
    · rw [if_neg c3] at H
      have c3b0 : decide (a0 < (-719162)) = false := decide_eq_false c3
      clear c3
      (first | rw [c3b0] | (simp only [i64_w, i32_w]; rw [c3b0]) | skip)
      have H' := Aside0.mk H
      clear H
      go_wp2
      go_meet
      case rel => exact ⟨_, (decide (a0 > 2932896)), (by first | rfl | (simp; done) | (simp [*]; done) | (refine congrArg _ ?_; rw [Bool.eq_iff_iff]; simp; done)), H', ⟨by first | omega | exact Nat.le_refl _⟩, by repeat (first | exact Drawn0.refl _ | apply Drawn0.step)⟩
  case rest =>
    clear HC2
    try clear p2
    try clear c3
    try clear c3b0
    obtain ⟨kq, x15_1, rfl, HA, HJ1, ⟨mc1, rfl⟩⟩ := hcut
    cases kq with
    | zero => exact absurd HA.out (by simp [day_Date.j0])
    | succ kj1 =>
      have H := HA.out
      clear HA
      simp only [day_Date.j0] at H
      by_cases c4 : x15_1 = true
      · subst c4
        have H1 : (some (0, 0, 0, false)) = some (r1, r2, r3, r4) := by rw [if_pos rfl] at H; exact H
        clear H
        have H := H1
        clear H1
        simp only [Option.some.injEq, Prod.mk.injEq] at H
        obtain ⟨rfl, rfl, rfl, rfl⟩ := H
        go_wp2
        refine bodyPost_ret (results_list (rs := [.tmp 2, .tmp 3, .tmp 4, .tmp 5]) rfl (by simp) (.tmp (.tmp (.tmp (.tmp .nil))))) rfl ?_
        exact ⟨by first | rfl | (simp; done) | (simp [*]; done) | (refine congrArg _ ?_; rw [Bool.eq_iff_iff]; simp; done), by repeat (first | exact Drawn0.refl _ | apply Drawn0.step)⟩
      · replace c4 := Bool.eq_false_iff.mpr c4
        subst c4
        have H1 : ((num_Div.f (wrap64 (a0 + 719468)) 146097).bind fun bt457 => (if (wrap64 ((wrap64 (Int.tdiv (wrap64 ((wrap64 (5 * (wrap64 (bt457.2.1 - (wrap64 ((wrap64 ((wrap64 (365 * (wrap64 (Int.tdiv (wrap64 ((wrap64 ((wrap64 (bt457.2.1 - (wrap64 (Int.tdiv bt457.2.1 1460)))) + (wrap64 (Int.tdiv bt457.2.1 36524)))) - (wrap64 (Int.tdiv bt457.2.1 146096)))) 365)))) + (wrap64 (Int.tdiv (wrap64 (Int.tdiv (wrap64 ((wrap64 ((wrap64 (bt457.2.1 - (wrap64 (Int.tdiv bt457.2.1 1460)))) + (wrap64 (Int.tdiv bt457.2.1 36524)))) - (wrap64 (Int.tdiv bt457.2.1 146096)))) 365)) 4)))) - (wrap64 (Int.tdiv (wrap64 (Int.tdiv (wrap64 ((wrap64 ((wrap64 (bt457.2.1 - (wrap64 (Int.tdiv bt457.2.1 1460)))) + (wrap64 (Int.tdiv bt457.2.1 36524)))) - (wrap64 (Int.tdiv bt457.2.1 146096)))) 365)) 100)))))))) + 2)) 153)) + 3)) > 12 then (some (wrap64 ((wrap64 (400 * bt457.1)) + (wrap64 ((wrap64 (Int.tdiv (wrap64 ((wrap64 ((wrap64 (bt457.2.1 - (wrap64 (Int.tdiv bt457.2.1 1460)))) + (wrap64 (Int.tdiv bt457.2.1 36524)))) - (wrap64 (Int.tdiv bt457.2.1 146096)))) 365)) + 1))), wrap64 ((wrap64 ((wrap64 (Int.tdiv (wrap64 ((wrap64 (5 * (wrap64 (bt457.2.1 - (wrap64 ((wrap64 ((wrap64 (365 * (wrap64 (Int.tdiv (wrap64 ((wrap64 ((wrap64 (bt457.2.1 - (wrap64 (Int.tdiv bt457.2.1 1460)))) + (wrap64 (Int.tdiv bt457.2.1 36524)))) - (wrap64 (Int.tdiv bt457.2.1 146096)))) 365)))) + (wrap64 (Int.tdiv (wrap64 (Int.tdiv (wrap64 ((wrap64 ((wrap64 (bt457.2.1 - (wrap64 (Int.tdiv bt457.2.1 1460)))) + (wrap64 (Int.tdiv bt457.2.1 36524)))) - (wrap64 (Int.tdiv bt457.2.1 146096)))) 365)) 4)))) - (wrap64 (Int.tdiv (wrap64 (Int.tdiv (wrap64 ((wrap64 ((wrap64 (bt457.2.1 - (wrap64 (Int.tdiv bt457.2.1 1460)))) + (wrap64 (Int.tdiv bt457.2.1 36524)))) - (wrap64 (Int.tdiv bt457.2.1 146096)))) 365)) 100)))))))) + 2)) 153)) + 3)) - 12), wrap64 ((wrap64 ((wrap64 (bt457.2.1 - (wrap64 ((wrap64 ((wrap64 (365 * (wrap64 (Int.tdiv (wrap64 ((wrap64 ((wrap64 (bt457.2.1 - (wrap64 (Int.tdiv bt457.2.1 1460)))) + (wrap64 (Int.tdiv bt457.2.1 36524)))) - (wrap64 (Int.tdiv bt457.2.1 146096)))) 365)))) + (wrap64 (Int.tdiv (wrap64 (Int.tdiv (wrap64 ((wrap64 ((wrap64 (bt457.2.1 - (wrap64 (Int.tdiv bt457.2.1 1460)))) + (wrap64 (Int.tdiv bt457.2.1 36524)))) - (wrap64 (Int.tdiv bt457.2.1 146096)))) 365)) 4)))) - (wrap64 (Int.tdiv (wrap64 (Int.tdiv (wrap64 ((wrap64 ((wrap64 (bt457.2.1 - (wrap64 (Int.tdiv bt457.2.1 1460)))) + (wrap64 (Int.tdiv bt457.2.1 36524)))) - (wrap64 (Int.tdiv bt457.2.1 146096)))) 365)) 100)))))) - (wrap64 (Int.tdiv (wrap64 ((wrap64 (153 * (wrap64 (Int.tdiv (wrap64 ((wrap64 (5 * (wrap64 (bt457.2.1 - (wrap64 ((wrap64 ((wrap64 (365 * (wrap64 (Int.tdiv (wrap64 ((wrap64 ((wrap64 (bt457.2.1 - (wrap64 (Int.tdiv bt457.2.1 1460)))) + (wrap64 (Int.tdiv bt457.2.1 36524)))) - (wrap64 (Int.tdiv bt457.2.1 146096)))) 365)))) + (wrap64 (Int.tdiv (wrap64 (Int.tdiv (wrap64 ((wrap64 ((wrap64 (bt457.2.1 - (wrap64 (Int.tdiv bt457.2.1 1460)))) + (wrap64 (Int.tdiv bt457.2.1 36524)))) - (wrap64 (Int.tdiv bt457.2.1 146096)))) 365)) 4)))) - (wrap64 (Int.tdiv (wrap64 (Int.tdiv (wrap64 ((wrap64 ((wrap64 (bt457.2.1 - (wrap64 (Int.tdiv bt457.2.1 1460)))) + (wrap64 (Int.tdiv bt457.2.1 36524)))) - (wrap64 (Int.tdiv bt457.2.1 146096)))) 365)) 100)))))))) + 2)) 153)))) + 2)) 5)))) + 1), true)) else (some (wrap64 ((wrap64 (400 * bt457.1)) + (wrap64 (Int.tdiv (wrap64 ((wrap64 ((wrap64 (bt457.2.1 - (wrap64 (Int.tdiv bt457.2.1 1460)))) + (wrap64 (Int.tdiv bt457.2.1 36524)))) - (wrap64 (Int.tdiv bt457.2.1 146096)))) 365))), wrap64 ((wrap64 (Int.tdiv (wrap64 ((wrap64 (5 * (wrap64 (bt457.2.1 - (wrap64 ((wrap64 ((wrap64 (365 * (wrap64 (Int.tdiv (wrap64 ((wrap64 ((wrap64 (bt457.2.1 - (wrap64 (Int.tdiv bt457.2.1 1460)))) + (wrap64 (Int.tdiv bt457.2.1 36524)))) - (wrap64 (Int.tdiv bt457.2.1 146096)))) 365)))) + (wrap64 (Int.tdiv (wrap64 (Int.tdiv (wrap64 ((wrap64 ((wrap64 (bt457.2.1 - (wrap64 (Int.tdiv bt457.2.1 1460)))) + (wrap64 (Int.tdiv bt457.2.1 36524)))) - (wrap64 (Int.tdiv bt457.2.1 146096)))) 365)) 4)))) - (wrap64 (Int.tdiv (wrap64 (Int.tdiv (wrap64 ((wrap64 ((wrap64 (bt457.2.1 - (wrap64 (Int.tdiv bt457.2.1 1460)))) + (wrap64 (Int.tdiv bt457.2.1 36524)))) - (wrap64 (Int.tdiv bt457.2.1 146096)))) 365)) 100)))))))) + 2)) 153)) + 3), wrap64 ((wrap64 ((wrap64 (bt457.2.1 - (wrap64 ((wrap64 ((wrap64 (365 * (wrap64 (Int.tdiv (wrap64 ((wrap64 ((wrap64 (bt457.2.1 - (wrap64 (Int.tdiv bt457.2.1 1460)))) + (wrap64 (Int.tdiv bt457.2.1 36524)))) - (wrap64 (Int.tdiv bt457.2.1 146096)))) 365)))) + (wrap64 (Int.tdiv (wrap64 (Int.tdiv (wrap64 ((wrap64 ((wrap64 (bt457.2.1 - (wrap64 (Int.tdiv bt457.2.1 1460)))) + (wrap64 (Int.tdiv bt457.2.1 36524)))) - (wrap64 (Int.tdiv bt457.2.1 146096)))) 365)) 4)))) - (wrap64 (Int.tdiv (wrap64 (Int.tdiv (wrap64 ((wrap64 ((wrap64 (bt457.2.1 - (wrap64 (Int.tdiv bt457.2.1 1460)))) + (wrap64 (Int.tdiv bt457.2.1 36524)))) - (wrap64 (Int.tdiv bt457.2.1 146096)))) 365)) 100)))))) - (wrap64 (Int.tdiv (wrap64 ((wrap64 (153 * (wrap64 (Int.tdiv (wrap64 ((wrap64 (5 * (wrap64 (bt457.2.1 - (wrap64 ((wrap64 ((wrap64 (365 * (wrap64 (Int.tdiv (wrap64 ((wrap64 ((wrap64 (bt457.2.1 - (wrap64 (Int.tdiv bt457.2.1 1460)))) + (wrap64 (Int.tdiv bt457.2.1 36524)))) - (wrap64 (Int.tdiv bt457.2.1 146096)))) 365)))) + (wrap64 (Int.tdiv (wrap64 (Int.tdiv (wrap64 ((wrap64 ((wrap64 (bt457.2.1 - (wrap64 (Int.tdiv bt457.2.1 1460)))) + (wrap64 (Int.tdiv bt457.2.1 36524)))) - (wrap64 (Int.tdiv bt457.2.1 146096)))) 365)) 4)))) - (wrap64 (Int.tdiv (wrap64 (Int.tdiv (wrap64 ((wrap64 ((wrap64 (bt457.2.1 - (wrap64 (Int.tdiv bt457.2.1 1460)))) + (wrap64 (Int.tdiv bt457.2.1 36524)))) - (wrap64 (Int.tdiv bt457.2.1 146096)))) 365)) 100)))))))) + 2)) 153)))) + 2)) 5)))) + 1), true)))) = some (r1, r2, r3, r4) := by rw [if_neg (show ¬ (false = true) by decide)] at H; exact H
        clear H
        have H := H1
        clear H1
        replace H := Option.bind_eq_some_iff.mp H
        obtain ⟨⟨t457, t458, t459⟩, A50, H⟩ := H
        replace H : (if (wrap64 ((wrap64 (Int.tdiv (wrap64 ((wrap64 (5 * (wrap64 (t458 - (wrap64 ((wrap64 ((wrap64 (365 * (wrap64 (Int.tdiv (wrap64 ((wrap64 ((wrap64 (t458 - (wrap64 (Int.tdiv t458 1460)))) + (wrap64 (Int.tdiv t458 36524)))) - (wrap64 (Int.tdiv t458 146096)))) 365)))) + (wrap64 (Int.tdiv (wrap64 (Int.tdiv (wrap64 ((wrap64 ((wrap64 (t458 - (wrap64 (Int.tdiv t458 1460)))) + (wrap64 (Int.tdiv t458 36524)))) - (wrap64 (Int.tdiv t458 146096)))) 365)) 4)))) - (wrap64 (Int.tdiv (wrap64 (Int.tdiv (wrap64 ((wrap64 ((wrap64 (t458 - (wrap64 (Int.tdiv t458 1460)))) + (wrap64 (Int.tdiv t458 36524)))) - (wrap64 (Int.tdiv t458 146096)))) 365)) 100)))))))) + 2)) 153)) + 3)) > 12 then (some (wrap64 ((wrap64 (400 * t457)) + (wrap64 ((wrap64 (Int.tdiv (wrap64 ((wrap64 ((wrap64 (t458 - (wrap64 (Int.tdiv t458 1460)))) + (wrap64 (Int.tdiv t458 36524)))) - (wrap64 (Int.tdiv t458 146096)))) 365)) + 1))), wrap64 ((wrap64 ((wrap64 (Int.tdiv (wrap64 ((wrap64 (5 * (wrap64 (t458 - (wrap64 ((wrap64 ((wrap64 (365 * (wrap64 (Int.tdiv (wrap64 ((wrap64 ((wrap64 (t458 - (wrap64 (Int.tdiv t458 1460)))) + (wrap64 (Int.tdiv t458 36524)))) - (wrap64 (Int.tdiv t458 146096)))) 365)))) + (wrap64 (Int.tdiv (wrap64 (Int.tdiv (wrap64 ((wrap64 ((wrap64 (t458 - (wrap64 (Int.tdiv t458 1460)))) + (wrap64 (Int.tdiv t458 36524)))) - (wrap64 (Int.tdiv t458 146096)))) 365)) 4)))) - (wrap64 (Int.tdiv (wrap64 (Int.tdiv (wrap64 ((wrap64 ((wrap64 (t458 - (wrap64 (Int.tdiv t458 1460)))) + (wrap64 (Int.tdiv t458 36524)))) - (wrap64 (Int.tdiv t458 146096)))) 365)) 100)))))))) + 2)) 153)) + 3)) - 12), wrap64 ((wrap64 ((wrap64 (t458 - (wrap64 ((wrap64 ((wrap64 (365 * (wrap64 (Int.tdiv (wrap64 ((wrap64 ((wrap64 (t458 - (wrap64 (Int.tdiv t458 1460)))) + (wrap64 (Int.tdiv t458 36524)))) - (wrap64 (Int.tdiv t458 146096)))) 365)))) + (wrap64 (Int.tdiv (wrap64 (Int.tdiv (wrap64 ((wrap64 ((wrap64 (t458 - (wrap64 (Int.tdiv t458 1460)))) + (wrap64 (Int.tdiv t458 36524)))) - (wrap64 (Int.tdiv t458 146096)))) 365)) 4)))) - (wrap64 (Int.tdiv (wrap64 (Int.tdiv (wrap64 ((wrap64 ((wrap64 (t458 - (wrap64 (Int.tdiv t458 1460)))) + (wrap64 (Int.tdiv t458 36524)))) - (wrap64 (Int.tdiv t458 146096)))) 365)) 100)))))) - (wrap64 (Int.tdiv (wrap64 ((wrap64 (153 * (wrap64 (Int.tdiv (wrap64 ((wrap64 (5 * (wrap64 (t458 - (wrap64 ((wrap64 ((wrap64 (365 * (wrap64 (Int.tdiv (wrap64 ((wrap64 ((wrap64 (t458 - (wrap64 (Int.tdiv t458 1460)))) + (wrap64 (Int.tdiv t458 36524)))) - (wrap64 (Int.tdiv t458 146096)))) 365)))) + (wrap64 (Int.tdiv (wrap64 (Int.tdiv (wrap64 ((wrap64 ((wrap64 (t458 - (wrap64 (Int.tdiv t458 1460)))) + (wrap64 (Int.tdiv t458 36524)))) - (wrap64 (Int.tdiv t458 146096)))) 365)) 4)))) - (wrap64 (Int.tdiv (wrap64 (Int.tdiv (wrap64 ((wrap64 ((wrap64 (t458 - (wrap64 (Int.tdiv t458 1460)))) + (wrap64 (Int.tdiv t458 36524)))) - (wrap64 (Int.tdiv t458 146096)))) 365)) 100)))))))) + 2)) 153)))) + 2)) 5)))) + 1), true)) else (some (wrap64 ((wrap64 (400 * t457)) + (wrap64 (Int.tdiv (wrap64 ((wrap64 ((wrap64 (t458 - (wrap64 (Int.tdiv t458 1460)))) + (wrap64 (Int.tdiv t458 36524)))) - (wrap64 (Int.tdiv t458 146096)))) 365))), wrap64 ((wrap64 (Int.tdiv (wrap64 ((wrap64 (5 * (wrap64 (t458 - (wrap64 ((wrap64 ((wrap64 (365 * (wrap64 (Int.tdiv (wrap64 ((wrap64 ((wrap64 (t458 - (wrap64 (Int.tdiv t458 1460)))) + (wrap64 (Int.tdiv t458 36524)))) - (wrap64 (Int.tdiv t458 146096)))) 365)))) + (wrap64 (Int.tdiv (wrap64 (Int.tdiv (wrap64 ((wrap64 ((wrap64 (t458 - (wrap64 (Int.tdiv t458 1460)))) + (wrap64 (Int.tdiv t458 36524)))) - (wrap64 (Int.tdiv t458 146096)))) 365)) 4)))) - (wrap64 (Int.tdiv (wrap64 (Int.tdiv (wrap64 ((wrap64 ((wrap64 (t458 - (wrap64 (Int.tdiv t458 1460)))) + (wrap64 (Int.tdiv t458 36524)))) - (wrap64 (Int.tdiv t458 146096)))) 365)) 100)))))))) + 2)) 153)) + 3), wrap64 ((wrap64 ((wrap64 (t458 - (wrap64 ((wrap64 ((wrap64 (365 * (wrap64 (Int.tdiv (wrap64 ((wrap64 ((wrap64 (t458 - (wrap64 (Int.tdiv t458 1460)))) + (wrap64 (Int.tdiv t458 36524)))) - (wrap64 (Int.tdiv t458 146096)))) 365)))) + (wrap64 (Int.tdiv (wrap64 (Int.tdiv (wrap64 ((wrap64 ((wrap64 (t458 - (wrap64 (Int.tdiv t458 1460)))) + (wrap64 (Int.tdiv t458 36524)))) - (wrap64 (Int.tdiv t458 146096)))) 365)) 4)))) - (wrap64 (Int.tdiv (wrap64 (Int.tdiv (wrap64 ((wrap64 ((wrap64 (t458 - (wrap64 (Int.tdiv t458 1460)))) + (wrap64 (Int.tdiv t458 36524)))) - (wrap64 (Int.tdiv t458 146096)))) 365)) 100)))))) - (wrap64 (Int.tdiv (wrap64 ((wrap64 (153 * (wrap64 (Int.tdiv (wrap64 ((wrap64 (5 * (wrap64 (t458 - (wrap64 ((wrap64 ((wrap64 (365 * (wrap64 (Int.tdiv (wrap64 ((wrap64 ((wrap64 (t458 - (wrap64 (Int.tdiv t458 1460)))) + (wrap64 (Int.tdiv t458 36524)))) - (wrap64 (Int.tdiv t458 146096)))) 365)))) + (wrap64 (Int.tdiv (wrap64 (Int.tdiv (wrap64 ((wrap64 ((wrap64 (t458 - (wrap64 (Int.tdiv t458 1460)))) + (wrap64 (Int.tdiv t458 36524)))) - (wrap64 (Int.tdiv t458 146096)))) 365)) 4)))) - (wrap64 (Int.tdiv (wrap64 (Int.tdiv (wrap64 ((wrap64 ((wrap64 (t458 - (wrap64 (Int.tdiv t458 1460)))) + (wrap64 (Int.tdiv t458 36524)))) - (wrap64 (Int.tdiv t458 146096)))) 365)) 100)))))))) + 2)) 153)))) + 2)) 5)))) + 1), true))) = some (r1, r2, r3, r4) := H
        have A5 := Aside0.mk A50
        clear A50
        by_cases c6 : (wrap64 ((wrap64 (Int.tdiv (wrap64 ((wrap64 (5 * (wrap64 (t458 - (wrap64 ((wrap64 ((wrap64 (365 * (wrap64 (Int.tdiv (wrap64 ((wrap64 ((wrap64 (t458 - (wrap64 (Int.tdiv t458 1460)))) + (wrap64 (Int.tdiv t458 36524)))) - (wrap64 (Int.tdiv t458 146096)))) 365)))) + (wrap64 (Int.tdiv (wrap64 (Int.tdiv (wrap64 ((wrap64 ((wrap64 (t458 - (wrap64 (Int.tdiv t458 1460)))) + (wrap64 (Int.tdiv t458 36524)))) - (wrap64 (Int.tdiv t458 146096)))) 365)) 4)))) - (wrap64 (Int.tdiv (wrap64 (Int.tdiv (wrap64 ((wrap64 ((wrap64 (t458 - (wrap64 (Int.tdiv t458 1460)))) + (wrap64 (Int.tdiv t458 36524)))) - (wrap64 (Int.tdiv t458 146096)))) 365)) 100)))))))) + 2)) 153)) + 3)) > 12
        · rw [if_pos c6] at H
          have c6b0 : decide (12 < (wrap64 ((wrap64 (Int.tdiv (wrap64 ((wrap64 (5 * (wrap64 (t458 - (wrap64 ((wrap64 ((wrap64 (365 * (wrap64 (Int.tdiv (wrap64 ((wrap64 ((wrap64 (t458 - (wrap64 (Int.tdiv t458 1460)))) + (wrap64 (Int.tdiv t458 36524)))) - (wrap64 (Int.tdiv t458 146096)))) 365)))) + (wrap64 (Int.tdiv (wrap64 (Int.tdiv (wrap64 ((wrap64 ((wrap64 (t458 - (wrap64 (Int.tdiv t458 1460)))) + (wrap64 (Int.tdiv t458 36524)))) - (wrap64 (Int.tdiv t458 146096)))) 365)) 4)))) - (wrap64 (Int.tdiv (wrap64 (Int.tdiv (wrap64 ((wrap64 ((wrap64 (t458 - (wrap64 (Int.tdiv t458 1460)))) + (wrap64 (Int.tdiv t458 36524)))) - (wrap64 (Int.tdiv t458 146096)))) 365)) 100)))))))) + 2)) 153)) + 3))) = true := decide_eq_true c6
          clear c6
          simp only [Option.some.injEq, Prod.mk.injEq] at H
          obtain ⟨rfl, rfl, rfl, rfl⟩ := H
          go_wp2_with (first | ((with_reducible refine gate_callee (f := 60) rfl ?_); refine goesL_ (some 19) rfl rfl Tryd.func60 (by kernel_rfl) rfl #[.int .i64 (wrap64 (a0 + 719468)), .int .i64 146097] rfl (by (try simp only [List.map_toArray, List.map_cons, List.map_nil]); first | done | rfl | (simp only [List.length_drop, List.length_take]; rfl)) ?_; (with_reducible refine (num_Div.calls (wrap64 (a0 + 719468)) 146097 t457 t458 t459 _ ?side707 A5.out).mono ?_); (case side707 => first | exact hG | exact hG.drewN _ | (refine hG.drawn ?_; repeat (first | exact Drawn0.refl _ | assumption | apply Drawn0.step))); rintro e w' ⟨rfl, ⟨nd, rfl⟩⟩; refine ⟨_, rfl, ?_⟩))
          refine bodyPost_ret (results_list (rs := [.tmp 2, .tmp 3, .tmp 4, .tmp 5]) rfl (by simp) (.tmp (.tmp (.tmp (.tmp .nil))))) rfl ?_
          exact ⟨by first | rfl | (simp; done) | (simp [*]; done) | (refine congrArg _ ?_; rw [Bool.eq_iff_iff]; simp; done), by repeat (first | exact Drawn0.refl _ | apply Drawn0.step)⟩
        · rw [if_neg c6] at H
          have c6b0 : decide (12 < (wrap64 ((wrap64 (Int.tdiv (wrap64 ((wrap64 (5 * (wrap64 (t458 - (wrap64 ((wrap64 ((wrap64 (365 * (wrap64 (Int.tdiv (wrap64 ((wrap64 ((wrap64 (t458 - (wrap64 (Int.tdiv t458 1460)))) + (wrap64 (Int.tdiv t458 36524)))) - (wrap64 (Int.tdiv t458 146096)))) 365)))) + (wrap64 (Int.tdiv (wrap64 (Int.tdiv (wrap64 ((wrap64 ((wrap64 (t458 - (wrap64 (Int.tdiv t458 1460)))) + (wrap64 (Int.tdiv t458 36524)))) - (wrap64 (Int.tdiv t458 146096)))) 365)) 4)))) - (wrap64 (Int.tdiv (wrap64 (Int.tdiv (wrap64 ((wrap64 ((wrap64 (t458 - (wrap64 (Int.tdiv t458 1460)))) + (wrap64 (Int.tdiv t458 36524)))) - (wrap64 (Int.tdiv t458 146096)))) 365)) 100)))))))) + 2)) 153)) + 3))) = false := decide_eq_false c6
          clear c6
          simp only [Option.some.injEq, Prod.mk.injEq] at H
          obtain ⟨rfl, rfl, rfl, rfl⟩ := H
          go_wp2_with (first | ((with_reducible refine gate_callee (f := 60) rfl ?_); refine goesL_ (some 19) rfl rfl Tryd.func60 (by kernel_rfl) rfl #[.int .i64 (wrap64 (a0 + 719468)), .int .i64 146097] rfl (by (try simp only [List.map_toArray, List.map_cons, List.map_nil]); first | done | rfl | (simp only [List.length_drop, List.length_take]; rfl)) ?_; (with_reducible refine (num_Div.calls (wrap64 (a0 + 719468)) 146097 t457 t458 t459 _ ?side708 A5.out).mono ?_); (case side708 => first | exact hG | exact hG.drewN _ | (refine hG.drawn ?_; repeat (first | exact Drawn0.refl _ | assumption | apply Drawn0.step))); rintro e w' ⟨rfl, ⟨nd, rfl⟩⟩; refine ⟨_, rfl, ?_⟩))
          refine bodyPost_ret (results_list (rs := [.tmp 2, .tmp 3, .tmp 4, .tmp 5]) rfl (by simp) (.tmp (.tmp (.tmp (.tmp .nil))))) rfl ?_
          exact ⟨by first | rfl | (simp; done) | (simp [*]; done) | (refine congrArg _ ?_; rw [Bool.eq_iff_iff]; simp; done), by repeat (first | exact Drawn0.refl _ | apply Drawn0.step)⟩

end Go.Proofs.YtghjemcbkackjaaDoor.P
