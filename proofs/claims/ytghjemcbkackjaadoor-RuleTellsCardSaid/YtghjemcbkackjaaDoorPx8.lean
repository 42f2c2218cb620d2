-- written by this project's program mkprint.py out of the translation; Lean checks it
import Derived.Test.YtghjemcbkackjaaDoorPx0
import Derived.Test.YtghjemcbkackjaaDoorPx7
namespace Go.Proofs.YtghjemcbkackjaaDoor.P
open Go.Proofs.YtghjemcbkackjaaDoor.F
open Go.RowKit Go.Proofs.YtghjemcbkackjaaDoorW.PrintWords Go.Proofs.YtghjemcbkackjaaDoorW.PrintLast Go.Proofs.YtghjemcbkackjaaDoorW.PrintMore
attribute [local go_sem] max2_int min2_int max_two min_two max_three min_three max_four min_four   -- for this text's walks alone
set_option linter.unusedVariables false
set_option linter.unusedSimpArgs false

/-! ### day_Number: function 39 -/
def day_Number.j0 : Nat → Int → Int → Int → Bool → Option (Int × Bool)
  | 0, _, _, _, _ => none
  | k + 1, x0, x1, x2, x30 => if x30 = true then (some (0, false)) else (if x1 < 3 then ((num_Div.f (wrap64 (x0 - 1)) 400).bind fun bt210 => (some (wrap64 ((wrap64 ((wrap64 ((wrap64 ((wrap64 ((wrap64 (146097 * bt210.1)) + (wrap64 (365 * bt210.2.1)))) + (wrap64 (Int.tdiv bt210.2.1 4)))) - (wrap64 (Int.tdiv bt210.2.1 100)))) + (wrap64 ((wrap64 ((wrap64 (Int.tdiv (wrap64 ((wrap64 (153 * (wrap64 ((wrap64 (x1 + 12)) - 3)))) + 2)) 5)) + x2)) - 1)))) - 719468), true))) else ((num_Div.f x0 400).bind fun bt213 => (some (wrap64 ((wrap64 ((wrap64 ((wrap64 ((wrap64 ((wrap64 (146097 * bt213.1)) + (wrap64 (365 * bt213.2.1)))) + (wrap64 (Int.tdiv bt213.2.1 4)))) - (wrap64 (Int.tdiv bt213.2.1 100)))) + (wrap64 ((wrap64 ((wrap64 (Int.tdiv (wrap64 ((wrap64 (153 * (wrap64 (x1 - 3)))) + 2)) 5)) + x2)) - 1)))) - 719468), true))))
def day_Number.f (k : Nat) (a0 : Int) (a1 : Int) (a2 : Int) : Option (Int × Bool) := (day_Last.f a0 a1).bind fun bt208 => (if bt208.2 = true then (if a2 < 1 then (day_Number.j0 k a0 a1 a2 true) else (day_Number.j0 k a0 a1 a2 (decide (a2 > bt208.1)))) else (day_Number.j0 k a0 a1 a2 true))
theorem day_Number.mono_l : ∀ k, (∀ y0 y1 y2 y3, LeO (day_Number.j0 k y0 y1 y2 y3) (day_Number.j0 (k + 1) y0 y1 y2 y3))
  | 0 => fun _ _ _ _ r h => by simp [day_Number.j0] at h
  | k + 1 => by
    have ih0 := day_Number.mono_l k
    · intro y0 y1 y2 y3
      unfold day_Number.j0
      repeat' first
      | (with_reducible exact ih0 _ _ _ _)
      | (with_reducible exact LeO.refl _)
      | (with_reducible exact LeO.none _)
      | (with_reducible refine LeO.ite ?_ ?_)
      | (with_reducible refine LeO.bind ?_ (fun _ => ?_))
      | exact ih0 _ _ _ _
      | exact LeO.none _
      | refine LeO.ite ?_ ?_
      | refine LeO.bind ?_ (fun _ => ?_)
theorem day_Number.mono : ∀ a0 a1 a2 k, LeO (day_Number.f k a0 a1 a2) (day_Number.f (k + 1) a0 a1 a2) := by
  intro a0 a1 a2 k
  have ih0 := day_Number.mono_l k
  unfold day_Number.f
  repeat' first
      | (with_reducible exact ih0 _ _ _ _)
      | (with_reducible exact LeO.refl _)
      | (with_reducible exact LeO.none _)
      | (with_reducible refine LeO.ite ?_ ?_)
      | (with_reducible refine LeO.bind ?_ (fun _ => ?_))
      | exact ih0 _ _ _ _
      | exact LeO.none _
      | refine LeO.ite ?_ ?_
      | refine LeO.bind ?_ (fun _ => ?_)
set_option maxHeartbeats 8000000 in
set_option maxRecDepth 100000 in
theorem day_Number.calls (k : Nat) (a0 : Int) (a1 : Int) (a2 : Int) (r1 : Int) (r2 : Bool) (w : World) (hG : GW w) (h : day_Number.f k a0 a1 a2 = some (r1, r2)) :
    Calls Tryd.prog 39 #[.int .i64 a0, .int .i64 a1, .int .i64 a2] w fun e w' => e = .returned (.tuple #[.int .i64 r1, .bool r2]) ∧ Drawn0 w w' := by
  have H : ((day_Last.f a0 a1).bind fun bt208 => (if bt208.2 = true then (if a2 < 1 then (day_Number.j0 k a0 a1 a2 true) else (day_Number.j0 k a0 a1 a2 (decide (a2 > bt208.1)))) else (day_Number.j0 k a0 a1 a2 true))) = some (r1, r2) := h
  clear h
  replace H := Option.bind_eq_some_iff.mp H
  obtain ⟨⟨t208, t209⟩, A40, H⟩ := H
  replace H : (if t209 = true then (if a2 < 1 then (day_Number.j0 k a0 a1 a2 true) else (day_Number.j0 k a0 a1 a2 (decide (a2 > t208)))) else (day_Number.j0 k a0 a1 a2 true)) = some (r1, r2) := H
  have A4 := Aside0.mk A40
  clear A40
  have HC5 := Aside0.mk H
  clear H
  go_enter Tryd.func39, Tryd.ntmps39
  go_upto_region 2 with (first | ((with_reducible refine gate_callee (f := 37) rfl ?_); refine goesL_ (some 17) rfl rfl Tryd.func37 (by kernel_rfl) rfl #[.int .i64 a0, .int .i64 a1] rfl (by (try simp only [List.map_toArray, List.map_cons, List.map_nil]); first | done | rfl | (simp only [List.length_drop, List.length_take]; rfl)) ?_; (with_reducible refine (day_Last.calls a0 a1 t208 t209 _ ?side706 A4.out).mono ?_); (case side706 => first | exact hG | exact hG.drewN _ | (refine hG.drawn ?_; repeat (first | exact Drawn0.refl _ | assumption | apply Drawn0.step))); rintro e w' ⟨rfl, ⟨nd, rfl⟩⟩; refine ⟨_, rfl, ?_⟩))
  (try simp only [Act.put, List.setIfInBounds_toArray, List.set_cons_zero, List.set_cons_succ])
  go_cut [30] (fun v30 wc => ∃ (kq : Nat) (x30_4 : Bool), v30 = .bool x30_4 ∧ Aside0 (day_Number.j0 kq a0 a1 a2 x30_4 = some (r1, r2)) ∧ Aside0 (kq ≤ k) ∧ Drawn0 w wc)
  case first =>
    have H := HC5.out
    clear HC5
    by_cases c7 : t209 = true
    · subst c7
      have H1 : (if a2 < 1 then (day_Number.j0 k a0 a1 a2 true) else (day_Number.j0 k a0 a1 a2 (decide (a2 > t208)))) = some (r1, r2) := by rw [if_pos rfl] at H; exact H
      clear H
      have H := H1
      clear H1
      by_cases c8 : a2 < 1
      · rw [if_pos c8] at H
        have c8b0 : decide (a2 < 1) = true := decide_eq_true c8
        clear c8
        (first | rw [c8b0] | (simp only [i64_w, i32_w]; rw [c8b0]) | skip)
        have H' := Aside0.mk H
        clear H
        go_wp2
        go_meet
        case rel => exact ⟨_, (true), (by first | rfl | (simp; done) | (simp [*]; done) | (refine congrArg _ ?_; rw [Bool.eq_iff_iff]; simp; done)), H', ⟨by first | omega | exact Nat.le_refl _⟩, by repeat (first | exact Drawn0.refl _ | apply Drawn0.step)⟩
      · rw [if_neg c8] at H
        have c8b0 : decide (a2 < 1) = false := decide_eq_false c8
        clear c8
        (first | rw [c8b0] | (simp only [i64_w, i32_w]; rw [c8b0]) | skip)
        have H' := Aside0.mk H
        clear H
        go_wp2
        go_meet
        case rel => exact ⟨_, (decide (a2 > t208)), (by first | rfl | (simp; done) | (simp [*]; done) | (refine congrArg _ ?_; rw [Bool.eq_iff_iff]; simp; done)), H', ⟨by first | omega | exact Nat.le_refl _⟩, by repeat (first | exact Drawn0.refl _ | apply Drawn0.step)⟩
    · replace c7 := Bool.eq_false_iff.mpr c7
      subst c7
      have H1 : (day_Number.j0 k a0 a1 a2 true) = some (r1, r2) := by rw [if_neg (show ¬ (false = true) by decide)] at H; exact H
      clear H
      have H := H1
      clear H1
      have H' := Aside0.mk H
      clear H
      go_wp2
      go_meet
      case rel => exact ⟨_, (true), (by first | rfl | (simp; done) | (simp [*]; done) | (refine congrArg _ ?_; rw [Bool.eq_iff_iff]; simp; done)), H', ⟨by first | omega | exact Nat.le_refl _⟩, by repeat (first | exact Drawn0.refl _ | apply Drawn0.step)⟩
  case rest =>
    clear HC5
    try clear p2
    try clear c3
    try clear c7
    try clear c8
    try clear c8b0
    obtain ⟨kq, x30_4, rfl, HA, HJ4, ⟨mc4, rfl⟩⟩ := hcut
    cases kq with
    | zero => exact absurd HA.out (by simp [day_Number.j0])
    | succ kj4 =>
      have H := HA.out
      clear HA
      simp only [day_Number.j0] at H
      by_cases c9 : x30_4 = true
      · subst c9
        have H1 : (some (0, false)) = some (r1, r2) := by rw [if_pos rfl] at H; exact H
        clear H
        have H := H1
        clear H1
        simp only [Option.some.injEq, Prod.mk.injEq] at H
        obtain ⟨rfl, rfl⟩ := H
        go_wp2
        go_ret2
        exact ⟨by first | rfl | (simp; done) | (simp [*]; done) | (refine congrArg _ ?_; rw [Bool.eq_iff_iff]; simp; done), by repeat (first | exact Drawn0.refl _ | apply Drawn0.step)⟩
      · replace c9 := Bool.eq_false_iff.mpr c9
        subst c9
        have H1 : (if a1 < 3 then ((num_Div.f (wrap64 (a0 - 1)) 400).bind fun bt210 => (some (wrap64 ((wrap64 ((wrap64 ((wrap64 ((wrap64 ((wrap64 (146097 * bt210.1)) + (wrap64 (365 * bt210.2.1)))) + (wrap64 (Int.tdiv bt210.2.1 4)))) - (wrap64 (Int.tdiv bt210.2.1 100)))) + (wrap64 ((wrap64 ((wrap64 (Int.tdiv (wrap64 ((wrap64 (153 * (wrap64 ((wrap64 (a1 + 12)) - 3)))) + 2)) 5)) + a2)) - 1)))) - 719468), true))) else ((num_Div.f a0 400).bind fun bt213 => (some (wrap64 ((wrap64 ((wrap64 ((wrap64 ((wrap64 ((wrap64 (146097 * bt213.1)) + (wrap64 (365 * bt213.2.1)))) + (wrap64 (Int.tdiv bt213.2.1 4)))) - (wrap64 (Int.tdiv bt213.2.1 100)))) + (wrap64 ((wrap64 ((wrap64 (Int.tdiv (wrap64 ((wrap64 (153 * (wrap64 (a1 - 3)))) + 2)) 5)) + a2)) - 1)))) - 719468), true)))) = some (r1, r2) := by rw [if_neg (show ¬ (false = true) by decide)] at H; exact H
        clear H
        have H := H1
        clear H1
        by_cases c10 : a1 < 3
        · rw [if_pos c10] at H
          have c10b0 : decide (a1 < 3) = true := decide_eq_true c10
          clear c10
          replace H := Option.bind_eq_some_iff.mp H
          obtain ⟨⟨t210, t211, t212⟩, A110, H⟩ := H
          replace H : (some (wrap64 ((wrap64 ((wrap64 ((wrap64 ((wrap64 ((wrap64 (146097 * t210)) + (wrap64 (365 * t211)))) + (wrap64 (Int.tdiv t211 4)))) - (wrap64 (Int.tdiv t211 100)))) + (wrap64 ((wrap64 ((wrap64 (Int.tdiv (wrap64 ((wrap64 (153 * (wrap64 ((wrap64 (a1 + 12)) - 3)))) + 2)) 5)) + a2)) - 1)))) - 719468), true)) = some (r1, r2) := H
          have A11 := Aside0.mk A110
          clear A110
          simp only [Option.some.injEq, Prod.mk.injEq] at H
          obtain ⟨rfl, rfl⟩ := H
          go_wp2_with (first | ((with_reducible refine gate_callee (f := 60) rfl ?_); refine goesL_ (some 39) rfl rfl Tryd.func60 (by kernel_rfl) rfl #[.int .i64 (wrap64 (a0 - 1)), .int .i64 400] rfl (by (try simp only [List.map_toArray, List.map_cons, List.map_nil]); first | done | rfl | (simp only [List.length_drop, List.length_take]; rfl)) ?_; (with_reducible refine (num_Div.calls (wrap64 (a0 - 1)) 400 t210 t211 t212 _ ?side712 A11.out).mono ?_); (case side712 => first | exact hG | exact hG.drewN _ | (refine hG.drawn ?_; repeat (first | exact Drawn0.refl _ | assumption | apply Drawn0.step))); rintro e w' ⟨rfl, ⟨nd, rfl⟩⟩; refine ⟨_, rfl, ?_⟩))
          go_ret2
          exact ⟨by first | rfl | (simp; done) | (simp [*]; done) | (refine congrArg _ ?_; rw [Bool.eq_iff_iff]; simp; done), by repeat (first | exact Drawn0.refl _ | apply Drawn0.step)⟩
        · rw [if_neg c10] at H
          have c10b0 : decide (a1 < 3) = false := decide_eq_false c10
          clear c10
          replace H := Option.bind_eq_some_iff.mp H
          obtain ⟨⟨t213, t214, t215⟩, A130, H⟩ := H
          replace H : (some (wrap64 ((wrap64 ((wrap64 ((wrap64 ((wrap64 ((wrap64 (146097 * t213)) + (wrap64 (365 * t214)))) + (wrap64 (Int.tdiv t214 4)))) - (wrap64 (Int.tdiv t214 100)))) + (wrap64 ((wrap64 ((wrap64 (Int.tdiv (wrap64 ((wrap64 (153 * (wrap64 (a1 - 3)))) + 2)) 5)) + a2)) - 1)))) - 719468), true)) = some (r1, r2) := H
          have A13 := Aside0.mk A130
          clear A130
          simp only [Option.some.injEq, Prod.mk.injEq] at H
          obtain ⟨rfl, rfl⟩ := H
          go_wp2_with (first | ((with_reducible refine gate_callee (f := 60) rfl ?_); refine goesL_ (some 39) rfl rfl Tryd.func60 (by kernel_rfl) rfl #[.int .i64 a0, .int .i64 400] rfl (by (try simp only [List.map_toArray, List.map_cons, List.map_nil]); first | done | rfl | (simp only [List.length_drop, List.length_take]; rfl)) ?_; (with_reducible refine (num_Div.calls a0 400 t213 t214 t215 _ ?side714 A13.out).mono ?_); (case side714 => first | exact hG | exact hG.drewN _ | (refine hG.drawn ?_; repeat (first | exact Drawn0.refl _ | assumption | apply Drawn0.step))); rintro e w' ⟨rfl, ⟨nd, rfl⟩⟩; refine ⟨_, rfl, ?_⟩))
          go_ret2
          exact ⟨by first | rfl | (simp; done) | (simp [*]; done) | (refine congrArg _ ?_; rw [Bool.eq_iff_iff]; simp; done), by repeat (first | exact Drawn0.refl _ | apply Drawn0.step)⟩

/-! ### day_Leap: function 55 -/
def day_Leap.f (a0 : Int) : Option (Bool) := if (Int.tmod a0 4) = 0 then (if (Int.tmod a0 100) = 0 then (some ((Int.tmod a0 400) == 0)) else (some true)) else (some false)
set_option maxHeartbeats 8000000 in
set_option maxRecDepth 100000 in
theorem day_Leap.calls (a0 : Int) (r : Bool) (w : World) (hG : GW w) (h : day_Leap.f a0 = some r) :
    Calls Tryd.prog 55 #[.int .i64 a0] w fun e w' => e = .returned (.bool r) ∧ Drawn0 w w' := by
  have H : (if (Int.tmod a0 4) = 0 then (if (Int.tmod a0 100) = 0 then (some ((Int.tmod a0 400) == 0)) else (some true)) else (some false)) = some r := h
  clear h
  by_cases c2 : (Int.tmod a0 4) = 0
  · rw [if_pos c2] at H
    have c2b0 : ((Int.tmod a0 4) == 0) = true := beq_iff_eq.mpr c2
    have c2b1 : ((Int.tmod a0 4) != 0) = false := bne_eq_false_iff_eq.mpr c2
    clear c2
    by_cases c3 : (Int.tmod a0 100) = 0
    · rw [if_pos c3] at H
      have c3b0 : ((Int.tmod a0 100) == 0) = true := beq_iff_eq.mpr c3
      have c3b1 : ((Int.tmod a0 100) != 0) = false := bne_eq_false_iff_eq.mpr c3
      clear c3
      obtain rfl := Option.some.inj H
      go_enter Tryd.func55, Tryd.ntmps55
      go_wp2
      go_ret
      exact ⟨by first | rfl | (simp; done) | (simp [*]; done) | (refine congrArg _ ?_; rw [Bool.eq_iff_iff]; simp; done), by repeat (first | exact Drawn0.refl _ | apply Drawn0.step)⟩
    · rw [if_neg c3] at H
      have c3b0 : ((Int.tmod a0 100) == 0) = false := beq_eq_false_iff_ne.mpr c3
      have c3b1 : ((Int.tmod a0 100) != 0) = true := bne_iff_ne.mpr c3
      obtain rfl := Option.some.inj H
      go_enter Tryd.func55, Tryd.ntmps55
      go_wp2
      go_ret
      exact ⟨by first | rfl | (simp; done) | (simp [*]; done) | (refine congrArg _ ?_; rw [Bool.eq_iff_iff]; simp; done), by repeat (first | exact Drawn0.refl _ | apply Drawn0.step)⟩
  · rw [if_neg c2] at H
    have c2b0 : ((Int.tmod a0 4) == 0) = false := beq_eq_false_iff_ne.mpr c2
    have c2b1 : ((Int.tmod a0 4) != 0) = true := bne_iff_ne.mpr c2
    obtain rfl := Option.some.inj H
    go_enter Tryd.func55, Tryd.ntmps55
    go_wp2
    go_ret
    exact ⟨by first | rfl | (simp; done) | (simp [*]; done) | (refine congrArg _ ?_; rw [Bool.eq_iff_iff]; simp; done), by repeat (first | exact Drawn0.refl _ | apply Drawn0.step)⟩

end Go.Proofs.YtghjemcbkackjaaDoor.P
