-- written by this project's program mkprint.py out of the translation; Lean checks it
import Derived.Test.YtghjemcbkackjaaDoorPx0
import Derived.Test.YtghjemcbkackjaaDoorPx2
import Derived.Test.YtghjemcbkackjaaDoorPx3
import Derived.Test.YtghjemcbkackjaaDoorPxS
namespace Go.Proofs.YtghjemcbkackjaaDoor.P
open Go.Proofs.YtghjemcbkackjaaDoor.F
open Go.RowKit Go.Proofs.YtghjemcbkackjaaDoorW.PrintWords Go.Proofs.YtghjemcbkackjaaDoorW.PrintLast Go.Proofs.YtghjemcbkackjaaDoorW.PrintMore
attribute [local go_sem] max2_int min2_int max_two min_two max_three min_three max_four min_four   -- for this text's walks alone
set_option linter.unusedVariables false
set_option linter.unusedSimpArgs false

/-! ### epactlaw17_RuleTimes: function 9 -/
mutual
def epactlaw17_RuleTimes.j0 : Nat → Int → ByteArray → Bool → ByteArray → Bool → Bool → Option (Bool)
  | 0, _, _, _, _, _, _ => none
  | k + 1, x0, x1, x5, x6, x7, x31 => if x31 = true then (some false) else (if x7 = true then ((rule_Time.f k x6).bind fun bt428 => (if bt428.2.2 = true then (if bt428.1 = x0 then (epactlaw17_RuleTimes.j1 k x1 x5 (bt428.2.1.toList != ([] : List UInt8))) else (epactlaw17_RuleTimes.j1 k x1 x5 true)) else (epactlaw17_RuleTimes.j1 k x1 x5 true))) else ((rule_Time.f k x1).bind fun bt434 => (if (bt434.2.1.size : Int) > (x1.size : Int) then (some false) else (if 0 ≤ (wrap64 ((x1.size : Int) - (bt434.2.1.size : Int))) then (if (wrap64 ((x1.size : Int) - (bt434.2.1.size : Int))) ≤ (x1.size : Int) then (if (x1.extract ((wrap64 ((x1.size : Int) - (bt434.2.1.size : Int))) : Int).toNat x1.size).toList = bt434.2.1.toList then (if (bt434.2.1.size : Int) < (x1.size : Int) then (if bt434.2.2 = true then (if x5 = true then (if bt434.1 ≥ (-604799) then (if bt434.1 ≤ 604799 then (some true) else (some false)) else (some false)) else (some false)) else (some false)) else (if bt434.2.2 = true then (some false) else (if x5 = true then (if bt434.1 ≥ (-604799) then (if bt434.1 ≤ 604799 then (some (bt434.1 == 0)) else (some false)) else (some false)) else (some false)))) else (some false)) else (none)) else (none)))))
def epactlaw17_RuleTimes.j1 : Nat → ByteArray → Bool → Bool → Option (Bool)
  | 0, _, _, _ => none
  | k + 1, x1, x5, x49 => if x49 = true then (some false) else ((rule_Time.f k x1).bind fun bt431 => (if (bt431.2.1.size : Int) > (x1.size : Int) then (some false) else (if 0 ≤ (wrap64 ((x1.size : Int) - (bt431.2.1.size : Int))) then (if (wrap64 ((x1.size : Int) - (bt431.2.1.size : Int))) ≤ (x1.size : Int) then (if (x1.extract ((wrap64 ((x1.size : Int) - (bt431.2.1.size : Int))) : Int).toNat x1.size).toList = bt431.2.1.toList then (if (bt431.2.1.size : Int) < (x1.size : Int) then (if bt431.2.2 = true then (if x5 = true then (if bt431.1 ≥ (-604799) then (if bt431.1 ≤ 604799 then (some true) else (some false)) else (some false)) else (some false)) else (some false)) else (if bt431.2.2 = true then (some false) else (if x5 = true then (if bt431.1 ≥ (-604799) then (if bt431.1 ≤ 604799 then (some (bt431.1 == 0)) else (some false)) else (some false)) else (some false)))) else (some false)) else (none)) else (none))))
end
def epactlaw17_RuleTimes.f (k : Nat) (a0 : Int) (a1 : ByteArray) : Option (Bool) := (epactlaw17_smallF.f).bind fun t425 => (if (a1.size : Int) > 200 then (some t425) else ((rule_Clock.f k a0).bind fun bt426 => (if a0 ≥ (-604799) then (if a0 ≤ 604799 then (epactlaw17_RuleTimes.j0 k a0 a1 t425 bt426.1 bt426.2 (!bt426.2)) else (epactlaw17_RuleTimes.j0 k a0 a1 t425 bt426.1 bt426.2 bt426.2)) else (epactlaw17_RuleTimes.j0 k a0 a1 t425 bt426.1 bt426.2 (bt426.2 != false)))))
theorem epactlaw17_RuleTimes.mono_l : ∀ k, (∀ y0 y1 y2 y3 y4 y5, LeO (epactlaw17_RuleTimes.j0 k y0 y1 y2 y3 y4 y5) (epactlaw17_RuleTimes.j0 (k + 1) y0 y1 y2 y3 y4 y5)) ∧ (∀ y0 y1 y2, LeO (epactlaw17_RuleTimes.j1 k y0 y1 y2) (epactlaw17_RuleTimes.j1 (k + 1) y0 y1 y2))
  | 0 => ⟨fun _ _ _ _ _ _ r h => by simp [epactlaw17_RuleTimes.j0] at h, fun _ _ _ r h => by simp [epactlaw17_RuleTimes.j1] at h⟩
  | k + 1 => by
    obtain ⟨ih0, ih1⟩ := epactlaw17_RuleTimes.mono_l k
    refine ⟨?_, ?_⟩
    · intro y0 y1 y2 y3 y4 y5
      unfold epactlaw17_RuleTimes.j0
      repeat' first
      | (with_reducible exact ih0 _ _ _ _ _ _)
      | (with_reducible exact ih1 _ _ _)
      | (with_reducible exact rule_Clock.mono _ _)
      | (with_reducible exact rule_Time.mono _ _)
      | (with_reducible exact LeO.refl _)
      | (with_reducible exact LeO.none _)
      | (with_reducible refine LeO.ite ?_ ?_)
      | (with_reducible refine LeO.bind ?_ (fun _ => ?_))
      | exact ih0 _ _ _ _ _ _
      | exact ih1 _ _ _
      | exact rule_Clock.mono _ _
      | exact rule_Time.mono _ _
      | exact LeO.none _
      | refine LeO.ite ?_ ?_
      | refine LeO.bind ?_ (fun _ => ?_)
    · intro y0 y1 y2
      unfold epactlaw17_RuleTimes.j1
      repeat' first
      | (with_reducible exact ih0 _ _ _ _ _ _)
      | (with_reducible exact ih1 _ _ _)
      | (with_reducible exact rule_Clock.mono _ _)
      | (with_reducible exact rule_Time.mono _ _)
      | (with_reducible exact LeO.refl _)
      | (with_reducible exact LeO.none _)
      | (with_reducible refine LeO.ite ?_ ?_)
      | (with_reducible refine LeO.bind ?_ (fun _ => ?_))
      | exact ih0 _ _ _ _ _ _
      | exact ih1 _ _ _
      | exact rule_Clock.mono _ _
      | exact rule_Time.mono _ _
      | exact LeO.none _
      | refine LeO.ite ?_ ?_
      | refine LeO.bind ?_ (fun _ => ?_)
theorem epactlaw17_RuleTimes.mono : ∀ a0 a1 k, LeO (epactlaw17_RuleTimes.f k a0 a1) (epactlaw17_RuleTimes.f (k + 1) a0 a1) := by
  intro a0 a1 k
  obtain ⟨ih0, ih1⟩ := epactlaw17_RuleTimes.mono_l k
  unfold epactlaw17_RuleTimes.f
  repeat' first
      | (with_reducible exact ih0 _ _ _ _ _ _)
      | (with_reducible exact ih1 _ _ _)
      | (with_reducible exact rule_Clock.mono _ _)
      | (with_reducible exact rule_Time.mono _ _)
      | (with_reducible exact LeO.refl _)
      | (with_reducible exact LeO.none _)
      | (with_reducible refine LeO.ite ?_ ?_)
      | (with_reducible refine LeO.bind ?_ (fun _ => ?_))
      | exact ih0 _ _ _ _ _ _
      | exact ih1 _ _ _
      | exact rule_Clock.mono _ _
      | exact rule_Time.mono _ _
      | exact LeO.none _
      | refine LeO.ite ?_ ?_
      | refine LeO.bind ?_ (fun _ => ?_)
set_option maxHeartbeats 8000000 in
set_option maxRecDepth 100000 in
theorem epactlaw17_RuleTimes.calls (k : Nat) (a0 : Int) (a1 : ByteArray) (w : World) (hG : GW w) (h : epactlaw17_RuleTimes.f k a0 a1 = some true) :
    Calls Tryd.prog 9 #[.int .i64 a0, .string a1] w fun e w' => e = .returned (.bool true) ∧ Below w.heap.size w w' := by
  have HB := Aside0.mk (Below.refl w.heap.size w)
  have H : ((epactlaw17_smallF.f).bind fun t425 => (if (a1.size : Int) > 200 then (some t425) else ((rule_Clock.f k a0).bind fun bt426 => (if a0 ≥ (-604799) then (if a0 ≤ 604799 then (epactlaw17_RuleTimes.j0 k a0 a1 t425 bt426.1 bt426.2 (!bt426.2)) else (epactlaw17_RuleTimes.j0 k a0 a1 t425 bt426.1 bt426.2 bt426.2)) else (epactlaw17_RuleTimes.j0 k a0 a1 t425 bt426.1 bt426.2 (bt426.2 != false)))))) = some true := h
  clear h
  replace H := Option.bind_eq_some_iff.mp H
  obtain ⟨t425, A30, H⟩ := H
  replace H : (if (a1.size : Int) > 200 then (some t425) else ((rule_Clock.f k a0).bind fun bt426 => (if a0 ≥ (-604799) then (if a0 ≤ 604799 then (epactlaw17_RuleTimes.j0 k a0 a1 t425 bt426.1 bt426.2 (!bt426.2)) else (epactlaw17_RuleTimes.j0 k a0 a1 t425 bt426.1 bt426.2 bt426.2)) else (epactlaw17_RuleTimes.j0 k a0 a1 t425 bt426.1 bt426.2 (bt426.2 != false))))) = some true := H
  have A3 := Aside0.mk A30
  clear A30
  by_cases c4 : (a1.size : Int) > 200
  · rw [if_pos c4] at H
    have c4b0 : decide (200 < (a1.size : Int)) = true := decide_eq_true c4
    have c4b1 : decide (200 < a1.size) = true := decide_eq_true (by omega)
    clear c4
    have hT := Option.some.inj H
    clear H
    try have hT2 : (t425) = true := by simpa using hT
    go_enter Tryd.func9, Tryd.ntmps9
    go_wp2_with (first | ((with_reducible refine gate_callee (f := 21) rfl ?_); refine goesL_ (some 14) rfl rfl Tryd.func21 (by kernel_rfl) rfl #[] rfl (by (try simp only [List.map_toArray, List.map_cons, List.map_nil]); first | done | rfl | (simp only [List.length_drop, List.length_take]; rfl)) ?_; (with_reducible refine (epactlaw17_smallF.calls  t425 _ ?side705 A3.out).mono ?_); (case side705 => first | exact hG | exact hG.at1 HB | exact hG.drewN _ | (refine hG.below ?_; repeat (first | (with_reducible first | exact HB.out | apply below_alloc | apply pw_below_drewN | apply below_drew1) | exact HB.out))); rintro e w6 ⟨rfl, hb⟩; refine ⟨_, rfl, ?_⟩; have n0_ := Aside0.mk (below_step (by repeat (first | (with_reducible first | exact HB.out | apply below_alloc | apply pw_below_drewN | apply below_drew1) | exact HB.out)) hb); clear HB; have HB := n0_; clear n0_; (try clear hb); (try clear hb2); (try clear hk); (try clear hi)))
    go_ret
    exact ⟨by first | rfl | (simp [errW_none, errW_some] <;> rfl) | (simp [*, errW_none, errW_some] <;> rfl), by repeat (first | (with_reducible first | exact HB.out | apply below_alloc | apply pw_below_drewN | apply below_drew1) | exact HB.out)⟩
  · rw [if_neg c4] at H
    have c4b0 : decide (200 < (a1.size : Int)) = false := decide_eq_false c4
    have c4b1 : decide (200 < a1.size) = false := decide_eq_false (by omega)
    clear c4
    replace H := Option.bind_eq_some_iff.mp H
    obtain ⟨⟨t426, t427⟩, A70, H⟩ := H
    replace H : (if a0 ≥ (-604799) then (if a0 ≤ 604799 then (epactlaw17_RuleTimes.j0 k a0 a1 t425 t426 t427 (!t427)) else (epactlaw17_RuleTimes.j0 k a0 a1 t425 t426 t427 t427)) else (epactlaw17_RuleTimes.j0 k a0 a1 t425 t426 t427 (t427 != false))) = some true := H
    have A7 := Aside0.mk A70
    clear A70
    have HC8 := Aside0.mk H
    clear H
    go_enter Tryd.func9, Tryd.ntmps9
    go_upto_region 5 with (first | ((with_reducible refine gate_callee (f := 21) rfl ?_); refine goesL_ (some 14) rfl rfl Tryd.func21 (by kernel_rfl) rfl #[] rfl (by (try simp only [List.map_toArray, List.map_cons, List.map_nil]); first | done | rfl | (simp only [List.length_drop, List.length_take]; rfl)) ?_; (with_reducible refine (epactlaw17_smallF.calls  t425 _ ?side709 A3.out).mono ?_); (case side709 => first | exact hG | exact hG.at1 HB | exact hG.drewN _ | (refine hG.below ?_; repeat (first | (with_reducible first | exact HB.out | apply below_alloc | apply pw_below_drewN | apply below_drew1) | exact HB.out))); rintro e w10 ⟨rfl, hb⟩; refine ⟨_, rfl, ?_⟩; have n0_ := Aside0.mk (below_step (by repeat (first | (with_reducible first | exact HB.out | apply below_alloc | apply pw_below_drewN | apply below_drew1) | exact HB.out)) hb); clear HB; have HB := n0_; clear n0_; (try clear hb); (try clear hb2); (try clear hk); (try clear hi)) | ((with_reducible refine gate_callee (f := 22) rfl ?_); refine goesL_ (some 21) rfl rfl Tryd.func22 (by kernel_rfl) rfl #[.int .i64 a0] rfl (by (try simp only [List.map_toArray, List.map_cons, List.map_nil]); first | done | rfl | (simp only [List.length_drop, List.length_take]; rfl)) ?_; (with_reducible refine (rule_Clock.calls k a0 t426 t427 _ ?side711 A7.out).mono ?_); (case side711 => first | exact hG | exact hG.at1 HB | exact hG.drewN _ | (refine hG.below ?_; repeat (first | (with_reducible first | exact HB.out | apply below_alloc | apply pw_below_drewN | apply below_drew1) | exact HB.out))); rintro e w12 ⟨rfl, hb⟩; refine ⟨_, rfl, ?_⟩; have n0_ := Aside0.mk (below_step (by repeat (first | (with_reducible first | exact HB.out | apply below_alloc | apply pw_below_drewN | apply below_drew1) | exact HB.out)) hb); clear HB; have HB := n0_; clear n0_; (try clear hb); (try clear hb2); (try clear hk); (try clear hi)))
    (try simp only [Act.put, List.setIfInBounds_toArray, List.set_cons_zero, List.set_cons_succ])
    go_cut [31] (fun v31 wc => ∃ (kq : Nat) (x31_7 : Bool), v31 = .bool x31_7 ∧ Aside0 (epactlaw17_RuleTimes.j0 kq a0 a1 t425 t426 t427 x31_7 = some true) ∧ Aside0 (kq ≤ k) ∧ Aside0 (Below w.heap.size w wc))
    case first =>
      have H := HC8.out
      clear HC8
      by_cases c13 : a0 ≥ (-604799)
      · rw [if_pos c13] at H
        have c13b0 : decide ((-604799) ≤ a0) = true := decide_eq_true c13
        clear c13
        (first | rw [c13b0] | (simp only [i64_w, i32_w]; rw [c13b0]) | skip)
        by_cases c14 : a0 ≤ 604799
        · rw [if_pos c14] at H
          have c14b0 : decide (a0 ≤ 604799) = true := decide_eq_true c14
          clear c14
          have H' := Aside0.mk H
          clear H
          go_wp2
          go_meet
          case rel => exact ⟨_, (!t427), (by first | rfl | (simp; done) | (simp [*]; done) | (refine congrArg _ ?_; rw [Bool.eq_iff_iff]; simp; done)), H', ⟨by first | omega | exact Nat.le_refl _⟩, ⟨by repeat (first | (with_reducible first | exact HB.out | apply below_alloc | apply pw_below_drewN | apply below_drew1) | exact HB.out)⟩⟩
        · rw [if_neg c14] at H
          have c14b0 : decide (a0 ≤ 604799) = false := decide_eq_false c14
          clear c14
          have H' := Aside0.mk H
          clear H
          go_wp2
          go_meet
          case rel => exact ⟨_, (t427), (by first | rfl | (simp; done) | (simp [*]; done) | (refine congrArg _ ?_; rw [Bool.eq_iff_iff]; simp; done)), H', ⟨by first | omega | exact Nat.le_refl _⟩, ⟨by repeat (first | (with_reducible first | exact HB.out | apply below_alloc | apply pw_below_drewN | apply below_drew1) | exact HB.out)⟩⟩
      · rw [if_neg c13] at H
        have c13b0 : decide ((-604799) ≤ a0) = false := decide_eq_false c13
        clear c13
        (first | rw [c13b0] | (simp only [i64_w, i32_w]; rw [c13b0]) | skip)
        have H' := Aside0.mk H
        clear H
        go_wp2
        go_meet
        case rel => exact ⟨_, ((t427 != false)), (by first | rfl | (simp; done) | (simp [*]; done) | (refine congrArg _ ?_; rw [Bool.eq_iff_iff]; simp; done)), H', ⟨by first | omega | exact Nat.le_refl _⟩, ⟨by repeat (first | (with_reducible first | exact HB.out | apply below_alloc | apply pw_below_drewN | apply below_drew1) | exact HB.out)⟩⟩
    case rest =>
      clear HC8
      try clear c1
      try clear c2
      try clear p2
      try clear c4
      try clear c4b0
      try clear c4b1
      try clear c9
      try clear c13
      try clear c13b0
      try clear c14
      try clear c14b0
      obtain ⟨kq, x31_7, rfl, HA, HJ7, HB⟩ := hcut
      cases kq with
      | zero => exact absurd HA.out (by simp [epactlaw17_RuleTimes.j0])
      | succ kj7 =>
        have H := HA.out
        clear HA
        simp only [epactlaw17_RuleTimes.j0] at H
        by_cases c15 : x31_7 = true
        · subst c15
          have H1 : (some false) = some true := by rw [if_pos rfl] at H; exact H
          clear H
          have H := H1
          clear H1
          exact absurd H (by simp)
        · replace c15 := Bool.eq_false_iff.mpr c15
          subst c15
          have H1 : (if t427 = true then ((rule_Time.f kj7 t426).bind fun bt428 => (if bt428.2.2 = true then (if bt428.1 = a0 then (epactlaw17_RuleTimes.j1 kj7 a1 t425 (bt428.2.1.toList != ([] : List UInt8))) else (epactlaw17_RuleTimes.j1 kj7 a1 t425 true)) else (epactlaw17_RuleTimes.j1 kj7 a1 t425 true))) else ((rule_Time.f kj7 a1).bind fun bt434 => (if (bt434.2.1.size : Int) > (a1.size : Int) then (some false) else (if 0 ≤ (wrap64 ((a1.size : Int) - (bt434.2.1.size : Int))) then (if (wrap64 ((a1.size : Int) - (bt434.2.1.size : Int))) ≤ (a1.size : Int) then (if (a1.extract ((wrap64 ((a1.size : Int) - (bt434.2.1.size : Int))) : Int).toNat a1.size).toList = bt434.2.1.toList then (if (bt434.2.1.size : Int) < (a1.size : Int) then (if bt434.2.2 = true then (if t425 = true then (if bt434.1 ≥ (-604799) then (if bt434.1 ≤ 604799 then (some true) else (some false)) else (some false)) else (some false)) else (some false)) else (if bt434.2.2 = true then (some false) else (if t425 = true then (if bt434.1 ≥ (-604799) then (if bt434.1 ≤ 604799 then (some (bt434.1 == 0)) else (some false)) else (some false)) else (some false)))) else (some false)) else (none)) else (none))))) = some true := by rw [if_neg (show ¬ (false = true) by decide)] at H; exact H
          clear H
          have H := H1
          clear H1
          by_cases c16 : t427 = true
          · subst c16
            have H1 : ((rule_Time.f kj7 t426).bind fun bt428 => (if bt428.2.2 = true then (if bt428.1 = a0 then (epactlaw17_RuleTimes.j1 kj7 a1 t425 (bt428.2.1.toList != ([] : List UInt8))) else (epactlaw17_RuleTimes.j1 kj7 a1 t425 true)) else (epactlaw17_RuleTimes.j1 kj7 a1 t425 true))) = some true := by rw [if_pos rfl] at H; exact H
            clear H
            have H := H1
            clear H1
            replace H := Option.bind_eq_some_iff.mp H
            obtain ⟨⟨t428, t429, t430⟩, A170, H⟩ := H
            replace H : (if t430 = true then (if t428 = a0 then (epactlaw17_RuleTimes.j1 kj7 a1 t425 (t429.toList != ([] : List UInt8))) else (epactlaw17_RuleTimes.j1 kj7 a1 t425 true)) else (epactlaw17_RuleTimes.j1 kj7 a1 t425 true)) = some true := H
            have A17 := Aside0.mk A170
            clear A170
            have HC18 := Aside0.mk H
            clear H
            go_upto_region 9 with (first | ((with_reducible refine gate_callee (f := 24) rfl ?_); refine goesL_ (some 35) rfl rfl Tryd.func24 (by kernel_rfl) rfl #[.string t426] rfl (by (try simp only [List.map_toArray, List.map_cons, List.map_nil]); first | done | rfl | (simp only [List.length_drop, List.length_take]; rfl)) ?_; (with_reducible refine (rule_Time.calls kj7 t426 t428 t429 t430 _ ?side719 A17.out).mono ?_); (case side719 => first | exact hG | exact hG.at1 HB | exact hG.drewN _ | (refine hG.below ?_; repeat (first | (with_reducible first | exact HB.out | apply below_alloc | apply pw_below_drewN | apply below_drew1) | exact HB.out))); rintro e w20 ⟨rfl, hb⟩; refine ⟨_, rfl, ?_⟩; have n0_ := Aside0.mk (below_step (by repeat (first | (with_reducible first | exact HB.out | apply below_alloc | apply pw_below_drewN | apply below_drew1) | exact HB.out)) hb); clear HB; have HB := n0_; clear n0_; (try clear hb); (try clear hb2); (try clear hk); (try clear hi)))
            (try simp only [Act.put, List.setIfInBounds_toArray, List.set_cons_zero, List.set_cons_succ])
            go_cut [49] (fun v49 wc => ∃ (kq : Nat) (x49_17 : Bool), v49 = .bool x49_17 ∧ Aside0 (epactlaw17_RuleTimes.j1 kq a1 t425 x49_17 = some true) ∧ Aside0 (kq ≤ kj7) ∧ Aside0 (Below w.heap.size w wc))
            case first =>
              have H := HC18.out
              clear HC18
              by_cases c21 : t430 = true
              · subst c21
                have H1 : (if t428 = a0 then (epactlaw17_RuleTimes.j1 kj7 a1 t425 (t429.toList != ([] : List UInt8))) else (epactlaw17_RuleTimes.j1 kj7 a1 t425 true)) = some true := by rw [if_pos rfl] at H; exact H
                clear H
                have H := H1
                clear H1
                by_cases c22 : t428 = a0
                · rw [if_pos c22] at H
                  have c22b0 : (t428 == a0) = true := beq_iff_eq.mpr c22
                  have c22b1 : (t428 != a0) = false := bne_eq_false_iff_eq.mpr c22
                  clear c22
                  (first | rw [c22b0] | (simp only [i64_w, i32_w]; rw [c22b0]) | skip)
                  have H' := Aside0.mk H
                  clear H
                  go_wp2
                  go_meet
                  case rel => exact ⟨_, ((t429.toList != ([] : List UInt8))), (by first | rfl | (simp; done) | (simp [*]; done) | (refine congrArg _ ?_; rw [Bool.eq_iff_iff]; simp; done)), H', ⟨by have := HJ7.out; first | omega | exact Nat.le_refl _⟩, ⟨by repeat (first | (with_reducible first | exact HB.out | apply below_alloc | apply pw_below_drewN | apply below_drew1) | exact HB.out)⟩⟩
                · rw [if_neg c22] at H
                  have c22b0 : (t428 == a0) = false := beq_eq_false_iff_ne.mpr c22
                  have c22b1 : (t428 != a0) = true := bne_iff_ne.mpr c22
                  (first | rw [c22b0] | (simp only [i64_w, i32_w]; rw [c22b0]) | skip)
                  have H' := Aside0.mk H
                  clear H
                  go_wp2
                  go_meet
                  case rel => exact ⟨_, (true), (by first | rfl | (simp; done) | (simp [*]; done) | (refine congrArg _ ?_; rw [Bool.eq_iff_iff]; simp; done)), H', ⟨by have := HJ7.out; first | omega | exact Nat.le_refl _⟩, ⟨by repeat (first | (with_reducible first | exact HB.out | apply below_alloc | apply pw_below_drewN | apply below_drew1) | exact HB.out)⟩⟩
              · replace c21 := Bool.eq_false_iff.mpr c21
                subst c21
                have H1 : (epactlaw17_RuleTimes.j1 kj7 a1 t425 true) = some true := by rw [if_neg (show ¬ (false = true) by decide)] at H; exact H
                clear H
                have H := H1
                clear H1
                have H' := Aside0.mk H
                clear H
                go_wp2
                go_meet
                case rel => exact ⟨_, (true), (by first | rfl | (simp; done) | (simp [*]; done) | (refine congrArg _ ?_; rw [Bool.eq_iff_iff]; simp; done)), H', ⟨by have := HJ7.out; first | omega | exact Nat.le_refl _⟩, ⟨by repeat (first | (with_reducible first | exact HB.out | apply below_alloc | apply pw_below_drewN | apply below_drew1) | exact HB.out)⟩⟩
            case rest =>
              clear HC18
              try clear c1
              try clear c2
              try clear p2
              try clear c4
              try clear c4b0
              try clear c4b1
              try clear p6
              try clear c9
              try clear c13
              try clear c13b0
              try clear c14
              try clear c14b0
              try clear c15
              try clear c16
              try clear c21
              try clear c22
              try clear c22b0
              try clear c22b1
              try clear p2
              obtain ⟨kq, x49_17, rfl, HA, HJ17, HB⟩ := hcut
              cases kq with
              | zero => exact absurd HA.out (by simp [epactlaw17_RuleTimes.j1])
              | succ kj17 =>
                have H := HA.out
                clear HA
                simp only [epactlaw17_RuleTimes.j1] at H
                by_cases c23 : x49_17 = true
                · subst c23
                  have H1 : (some false) = some true := by rw [if_pos rfl] at H; exact H
                  clear H
                  have H := H1
                  clear H1
                  exact absurd H (by simp)
                · replace c23 := Bool.eq_false_iff.mpr c23
                  subst c23
                  have H1 : ((rule_Time.f kj17 a1).bind fun bt431 => (if (bt431.2.1.size : Int) > (a1.size : Int) then (some false) else (if 0 ≤ (wrap64 ((a1.size : Int) - (bt431.2.1.size : Int))) then (if (wrap64 ((a1.size : Int) - (bt431.2.1.size : Int))) ≤ (a1.size : Int) then (if (a1.extract ((wrap64 ((a1.size : Int) - (bt431.2.1.size : Int))) : Int).toNat a1.size).toList = bt431.2.1.toList then (if (bt431.2.1.size : Int) < (a1.size : Int) then (if bt431.2.2 = true then (if t425 = true then (if bt431.1 ≥ (-604799) then (if bt431.1 ≤ 604799 then (some true) else (some false)) else (some false)) else (some false)) else (some false)) else (if bt431.2.2 = true then (some false) else (if t425 = true then (if bt431.1 ≥ (-604799) then (if bt431.1 ≤ 604799 then (some (bt431.1 == 0)) else (some false)) else (some false)) else (some false)))) else (some false)) else (none)) else (none)))) = some true := by rw [if_neg (show ¬ (false = true) by decide)] at H; exact H
                  clear H
                  have H := H1
                  clear H1
                  replace H := Option.bind_eq_some_iff.mp H
                  obtain ⟨⟨t431, t432, t433⟩, A240, H⟩ := H
                  replace H : (if (t432.size : Int) > (a1.size : Int) then (some false) else (if 0 ≤ (wrap64 ((a1.size : Int) - (t432.size : Int))) then (if (wrap64 ((a1.size : Int) - (t432.size : Int))) ≤ (a1.size : Int) then (if (a1.extract ((wrap64 ((a1.size : Int) - (t432.size : Int))) : Int).toNat a1.size).toList = t432.toList then (if (t432.size : Int) < (a1.size : Int) then (if t433 = true then (if t425 = true then (if t431 ≥ (-604799) then (if t431 ≤ 604799 then (some true) else (some false)) else (some false)) else (some false)) else (some false)) else (if t433 = true then (some false) else (if t425 = true then (if t431 ≥ (-604799) then (if t431 ≤ 604799 then (some (t431 == 0)) else (some false)) else (some false)) else (some false)))) else (some false)) else (none)) else (none))) = some true := H
                  have A24 := Aside0.mk A240
                  clear A240
                  by_cases c25 : (t432.size : Int) > (a1.size : Int)
                  · rw [if_pos c25] at H
                    have c25b0 : decide ((a1.size : Int) < (t432.size : Int)) = true := decide_eq_true c25
                    have c25b1 : decide (a1.size < t432.size) = true := decide_eq_true (Int.ofNat_lt.mp c25)
                    clear c25
                    exact absurd H (by simp)
                  · rw [if_neg c25] at H
                    have c25b0 : decide ((a1.size : Int) < (t432.size : Int)) = false := decide_eq_false c25
                    have c25b1 : decide (a1.size < t432.size) = false := decide_eq_false (fun h => c25 (Int.ofNat_lt.mpr h))
                    clear c25
                    obtain ⟨ji26, hji26⟩ : ∃ j_ : Int, (wrap64 ((a1.size : Int) - (t432.size : Int))) = j_ := ⟨_, rfl⟩
                    replace H : (if 0 ≤ (ji26) then (if (ji26) ≤ (a1.size : Int) then (if (a1.extract ((ji26) : Int).toNat a1.size).toList = t432.toList then (if (t432.size : Int) < (a1.size : Int) then (if t433 = true then (if t425 = true then (if t431 ≥ (-604799) then (if t431 ≤ 604799 then (some true) else (some false)) else (some false)) else (some false)) else (some false)) else (if t433 = true then (some false) else (if t425 = true then (if t431 ≥ (-604799) then (if t431 ≤ 604799 then (some (t431 == 0)) else (some false)) else (some false)) else (some false)))) else (some false)) else (none)) else (none)) = some true := by first | (rw [hji26] at H; exact H) | (simp only [hji26] at H ⊢; exact H)
                    (try rw [hji26] at A24)
                    have hji26w : (IntKind.i64.wrap ((a1.size : Int) - (t432.size : Int))) = ji26 := (i64_w _).trans hji26
                    by_cases c27 : 0 ≤ (ji26)
                    · rw [if_pos c27] at H
                      have c27b0 := eq_true c27
                      have c27b1 : decide (0 ≤ (ji26)) = true := decide_eq_true c27
                      clear c27
                      by_cases c28 : (ji26) ≤ (a1.size : Int)
                      · rw [if_pos c28] at H
                        have c28b0 := eq_true c28
                        have c28b1 : decide ((ji26) ≤ (a1.size : Int)) = true := decide_eq_true c28
                        clear c28
                        by_cases c29 : (a1.extract ((ji26) : Int).toNat a1.size).toList = t432.toList
                        · rw [if_pos c29] at H
                          have c29b0 : ((a1.extract ((ji26) : Int).toNat a1.size).toList == t432.toList) = true := beq_iff_eq.mpr c29
                          have c29b1 : ((a1.extract ((ji26) : Int).toNat a1.size).toList != t432.toList) = false := bne_eq_false_iff_eq.mpr c29
                          clear c29
                          by_cases c30 : (t432.size : Int) < (a1.size : Int)
                          · rw [if_pos c30] at H
                            have c30b0 : decide ((t432.size : Int) < (a1.size : Int)) = true := decide_eq_true c30
                            have c30b1 : decide (t432.size < a1.size) = true := decide_eq_true (Int.ofNat_lt.mp c30)
                            clear c30
                            by_cases c31 : t433 = true
                            · subst c31
                              have H1 : (if t425 = true then (if t431 ≥ (-604799) then (if t431 ≤ 604799 then (some true) else (some false)) else (some false)) else (some false)) = some true := by rw [if_pos rfl] at H; exact H
                              clear H
                              have H := H1
                              clear H1
                              by_cases c32 : t425 = true
                              · subst c32
                                have H1 : (if t431 ≥ (-604799) then (if t431 ≤ 604799 then (some true) else (some false)) else (some false)) = some true := by rw [if_pos rfl] at H; exact H
                                clear H
                                have H := H1
                                clear H1
                                by_cases c33 : t431 ≥ (-604799)
                                · rw [if_pos c33] at H
                                  have c33b0 : decide ((-604799) ≤ t431) = true := decide_eq_true c33
                                  clear c33
                                  by_cases c34 : t431 ≤ 604799
                                  · rw [if_pos c34] at H
                                    have c34b0 : decide (t431 ≤ 604799) = true := decide_eq_true c34
                                    clear c34
                                    clear H
                                    go_wp2_with (first | ((with_reducible refine gate_callee (f := 24) rfl ?_); refine goesL_ (some 52) rfl rfl Tryd.func24 (by kernel_rfl) rfl #[.string a1] rfl (by (try simp only [List.map_toArray, List.map_cons, List.map_nil]); first | done | rfl | (simp only [List.length_drop, List.length_take]; rfl)) ?_; (with_reducible refine (rule_Time.calls kj17 a1 t431 t432 true _ ?side735 A24.out).mono ?_); (case side735 => first | exact hG | exact hG.at1 HB | exact hG.drewN _ | (refine hG.below ?_; repeat (first | (with_reducible first | exact HB.out | apply below_alloc | apply pw_below_drewN | apply below_drew1) | exact HB.out))); rintro e w36 ⟨rfl, hb⟩; refine ⟨_, rfl, ?_⟩; have n0_ := Aside0.mk (below_step (by repeat (first | (with_reducible first | exact HB.out | apply below_alloc | apply pw_below_drewN | apply below_drew1) | exact HB.out)) hb); clear HB; have HB := n0_; clear n0_; (try clear hb); (try clear hb2); (try clear hk); (try clear hi)))
                                    go_ret
                                    exact ⟨by first | rfl | (simp [errW_none, errW_some] <;> rfl) | (simp only [← hji26]; first | rfl | (simp [errW_none, errW_some] <;> rfl)) | (simp [*, errW_none, errW_some] <;> rfl), by repeat (first | (with_reducible first | exact HB.out | apply below_alloc | apply pw_below_drewN | apply below_drew1) | exact HB.out)⟩
                                  · rw [if_neg c34] at H
                                    have c34b0 : decide (t431 ≤ 604799) = false := decide_eq_false c34
                                    clear c34
                                    exact absurd H (by simp)
                                · rw [if_neg c33] at H
                                  have c33b0 : decide ((-604799) ≤ t431) = false := decide_eq_false c33
                                  clear c33
                                  exact absurd H (by simp)
                              · replace c32 := Bool.eq_false_iff.mpr c32
                                subst c32
                                have H1 : (some false) = some true := by rw [if_neg (show ¬ (false = true) by decide)] at H; exact H
                                clear H
                                have H := H1
                                clear H1
                                exact absurd H (by simp)
                            · replace c31 := Bool.eq_false_iff.mpr c31
                              subst c31
                              have H1 : (some false) = some true := by rw [if_neg (show ¬ (false = true) by decide)] at H; exact H
                              clear H
                              have H := H1
                              clear H1
                              exact absurd H (by simp)
                          · rw [if_neg c30] at H
                            have c30b0 : decide ((t432.size : Int) < (a1.size : Int)) = false := decide_eq_false c30
                            have c30b1 : decide (t432.size < a1.size) = false := decide_eq_false (fun h => c30 (Int.ofNat_lt.mpr h))
                            clear c30
                            by_cases c37 : t433 = true
                            · subst c37
                              have H1 : (some false) = some true := by rw [if_pos rfl] at H; exact H
                              clear H
                              have H := H1
                              clear H1
                              exact absurd H (by simp)
                            · replace c37 := Bool.eq_false_iff.mpr c37
                              subst c37
                              have H1 : (if t425 = true then (if t431 ≥ (-604799) then (if t431 ≤ 604799 then (some (t431 == 0)) else (some false)) else (some false)) else (some false)) = some true := by rw [if_neg (show ¬ (false = true) by decide)] at H; exact H
                              clear H
                              have H := H1
                              clear H1
                              by_cases c38 : t425 = true
                              · subst c38
                                have H1 : (if t431 ≥ (-604799) then (if t431 ≤ 604799 then (some (t431 == 0)) else (some false)) else (some false)) = some true := by rw [if_pos rfl] at H; exact H
                                clear H
                                have H := H1
                                clear H1
                                by_cases c39 : t431 ≥ (-604799)
                                · rw [if_pos c39] at H
                                  have c39b0 : decide ((-604799) ≤ t431) = true := decide_eq_true c39
                                  clear c39
                                  by_cases c40 : t431 ≤ 604799
                                  · rw [if_pos c40] at H
                                    have c40b0 : decide (t431 ≤ 604799) = true := decide_eq_true c40
                                    clear c40
                                    have hT := Option.some.inj H
                                    clear H
                                    try have hT2 : ((t431 == 0)) = true := by simpa using hT
                                    go_wp2_with (first | ((with_reducible refine gate_callee (f := 24) rfl ?_); refine goesL_ (some 52) rfl rfl Tryd.func24 (by kernel_rfl) rfl #[.string a1] rfl (by (try simp only [List.map_toArray, List.map_cons, List.map_nil]); first | done | rfl | (simp only [List.length_drop, List.length_take]; rfl)) ?_; (with_reducible refine (rule_Time.calls kj17 a1 t431 t432 false _ ?side741 A24.out).mono ?_); (case side741 => first | exact hG | exact hG.at1 HB | exact hG.drewN _ | (refine hG.below ?_; repeat (first | (with_reducible first | exact HB.out | apply below_alloc | apply pw_below_drewN | apply below_drew1) | exact HB.out))); rintro e w42 ⟨rfl, hb⟩; refine ⟨_, rfl, ?_⟩; have n0_ := Aside0.mk (below_step (by repeat (first | (with_reducible first | exact HB.out | apply below_alloc | apply pw_below_drewN | apply below_drew1) | exact HB.out)) hb); clear HB; have HB := n0_; clear n0_; (try clear hb); (try clear hb2); (try clear hk); (try clear hi)))
                                    go_ret
                                    exact ⟨by first | rfl | (simp [errW_none, errW_some] <;> rfl) | (simp only [← hji26]; first | rfl | (simp [errW_none, errW_some] <;> rfl)) | (simp [*, errW_none, errW_some] <;> rfl), by repeat (first | (with_reducible first | exact HB.out | apply below_alloc | apply pw_below_drewN | apply below_drew1) | exact HB.out)⟩
                                  · rw [if_neg c40] at H
                                    have c40b0 : decide (t431 ≤ 604799) = false := decide_eq_false c40
                                    clear c40
                                    exact absurd H (by simp)
                                · rw [if_neg c39] at H
                                  have c39b0 : decide ((-604799) ≤ t431) = false := decide_eq_false c39
                                  clear c39
                                  exact absurd H (by simp)
                              · replace c38 := Bool.eq_false_iff.mpr c38
                                subst c38
                                have H1 : (some false) = some true := by rw [if_neg (show ¬ (false = true) by decide)] at H; exact H
                                clear H
                                have H := H1
                                clear H1
                                exact absurd H (by simp)
                        · rw [if_neg c29] at H
                          have c29b0 : ((a1.extract ((ji26) : Int).toNat a1.size).toList == t432.toList) = false := beq_eq_false_iff_ne.mpr c29
                          have c29b1 : ((a1.extract ((ji26) : Int).toNat a1.size).toList != t432.toList) = true := bne_iff_ne.mpr c29
                          exact absurd H (by simp)
                      · rw [if_neg c28] at H
                        exact absurd H (by simp)
                    · rw [if_neg c27] at H
                      exact absurd H (by simp)
          · replace c16 := Bool.eq_false_iff.mpr c16
            subst c16
            have H1 : ((rule_Time.f kj7 a1).bind fun bt434 => (if (bt434.2.1.size : Int) > (a1.size : Int) then (some false) else (if 0 ≤ (wrap64 ((a1.size : Int) - (bt434.2.1.size : Int))) then (if (wrap64 ((a1.size : Int) - (bt434.2.1.size : Int))) ≤ (a1.size : Int) then (if (a1.extract ((wrap64 ((a1.size : Int) - (bt434.2.1.size : Int))) : Int).toNat a1.size).toList = bt434.2.1.toList then (if (bt434.2.1.size : Int) < (a1.size : Int) then (if bt434.2.2 = true then (if t425 = true then (if bt434.1 ≥ (-604799) then (if bt434.1 ≤ 604799 then (some true) else (some false)) else (some false)) else (some false)) else (some false)) else (if bt434.2.2 = true then (some false) else (if t425 = true then (if bt434.1 ≥ (-604799) then (if bt434.1 ≤ 604799 then (some (bt434.1 == 0)) else (some false)) else (some false)) else (some false)))) else (some false)) else (none)) else (none)))) = some true := by rw [if_neg (show ¬ (false = true) by decide)] at H; exact H
            clear H
            have H := H1
            clear H1
            replace H := Option.bind_eq_some_iff.mp H
            obtain ⟨⟨t434, t435, t436⟩, A430, H⟩ := H
            replace H : (if (t435.size : Int) > (a1.size : Int) then (some false) else (if 0 ≤ (wrap64 ((a1.size : Int) - (t435.size : Int))) then (if (wrap64 ((a1.size : Int) - (t435.size : Int))) ≤ (a1.size : Int) then (if (a1.extract ((wrap64 ((a1.size : Int) - (t435.size : Int))) : Int).toNat a1.size).toList = t435.toList then (if (t435.size : Int) < (a1.size : Int) then (if t436 = true then (if t425 = true then (if t434 ≥ (-604799) then (if t434 ≤ 604799 then (some true) else (some false)) else (some false)) else (some false)) else (some false)) else (if t436 = true then (some false) else (if t425 = true then (if t434 ≥ (-604799) then (if t434 ≤ 604799 then (some (t434 == 0)) else (some false)) else (some false)) else (some false)))) else (some false)) else (none)) else (none))) = some true := H
            have A43 := Aside0.mk A430
            clear A430
            by_cases c44 : (t435.size : Int) > (a1.size : Int)
            · rw [if_pos c44] at H
              have c44b0 : decide ((a1.size : Int) < (t435.size : Int)) = true := decide_eq_true c44
              have c44b1 : decide (a1.size < t435.size) = true := decide_eq_true (Int.ofNat_lt.mp c44)
              clear c44
              exact absurd H (by simp)
            · rw [if_neg c44] at H
              have c44b0 : decide ((a1.size : Int) < (t435.size : Int)) = false := decide_eq_false c44
              have c44b1 : decide (a1.size < t435.size) = false := decide_eq_false (fun h => c44 (Int.ofNat_lt.mpr h))
              clear c44
              obtain ⟨ji45, hji45⟩ : ∃ j_ : Int, (wrap64 ((a1.size : Int) - (t435.size : Int))) = j_ := ⟨_, rfl⟩
              replace H : (if 0 ≤ (ji45) then (if (ji45) ≤ (a1.size : Int) then (if (a1.extract ((ji45) : Int).toNat a1.size).toList = t435.toList then (if (t435.size : Int) < (a1.size : Int) then (if t436 = true then (if t425 = true then (if t434 ≥ (-604799) then (if t434 ≤ 604799 then (some true) else (some false)) else (some false)) else (some false)) else (some false)) else (if t436 = true then (some false) else (if t425 = true then (if t434 ≥ (-604799) then (if t434 ≤ 604799 then (some (t434 == 0)) else (some false)) else (some false)) else (some false)))) else (some false)) else (none)) else (none)) = some true := by first | (rw [hji45] at H; exact H) | (simp only [hji45] at H ⊢; exact H)
              (try rw [hji45] at A43)
              have hji45w : (IntKind.i64.wrap ((a1.size : Int) - (t435.size : Int))) = ji45 := (i64_w _).trans hji45
              by_cases c46 : 0 ≤ (ji45)
              · rw [if_pos c46] at H
                have c46b0 := eq_true c46
                have c46b1 : decide (0 ≤ (ji45)) = true := decide_eq_true c46
                clear c46
                by_cases c47 : (ji45) ≤ (a1.size : Int)
                · rw [if_pos c47] at H
                  have c47b0 := eq_true c47
                  have c47b1 : decide ((ji45) ≤ (a1.size : Int)) = true := decide_eq_true c47
                  clear c47
                  by_cases c48 : (a1.extract ((ji45) : Int).toNat a1.size).toList = t435.toList
                  · rw [if_pos c48] at H
                    have c48b0 : ((a1.extract ((ji45) : Int).toNat a1.size).toList == t435.toList) = true := beq_iff_eq.mpr c48
                    have c48b1 : ((a1.extract ((ji45) : Int).toNat a1.size).toList != t435.toList) = false := bne_eq_false_iff_eq.mpr c48
                    clear c48
                    by_cases c49 : (t435.size : Int) < (a1.size : Int)
                    · rw [if_pos c49] at H
                      have c49b0 : decide ((t435.size : Int) < (a1.size : Int)) = true := decide_eq_true c49
                      have c49b1 : decide (t435.size < a1.size) = true := decide_eq_true (Int.ofNat_lt.mp c49)
                      clear c49
                      by_cases c50 : t436 = true
                      · subst c50
                        have H1 : (if t425 = true then (if t434 ≥ (-604799) then (if t434 ≤ 604799 then (some true) else (some false)) else (some false)) else (some false)) = some true := by rw [if_pos rfl] at H; exact H
                        clear H
                        have H := H1
                        clear H1
                        by_cases c51 : t425 = true
                        · subst c51
                          have H1 : (if t434 ≥ (-604799) then (if t434 ≤ 604799 then (some true) else (some false)) else (some false)) = some true := by rw [if_pos rfl] at H; exact H
                          clear H
                          have H := H1
                          clear H1
                          by_cases c52 : t434 ≥ (-604799)
                          · rw [if_pos c52] at H
                            have c52b0 : decide ((-604799) ≤ t434) = true := decide_eq_true c52
                            clear c52
                            by_cases c53 : t434 ≤ 604799
                            · rw [if_pos c53] at H
                              have c53b0 : decide (t434 ≤ 604799) = true := decide_eq_true c53
                              clear c53
                              clear H
                              go_wp2_with (first | ((with_reducible refine gate_callee (f := 24) rfl ?_); refine goesL_ (some 52) rfl rfl Tryd.func24 (by kernel_rfl) rfl #[.string a1] rfl (by (try simp only [List.map_toArray, List.map_cons, List.map_nil]); first | done | rfl | (simp only [List.length_drop, List.length_take]; rfl)) ?_; (with_reducible refine (rule_Time.calls kj7 a1 t434 t435 true _ ?side754 A43.out).mono ?_); (case side754 => first | exact hG | exact hG.at1 HB | exact hG.drewN _ | (refine hG.below ?_; repeat (first | (with_reducible first | exact HB.out | apply below_alloc | apply pw_below_drewN | apply below_drew1) | exact HB.out))); rintro e w55 ⟨rfl, hb⟩; refine ⟨_, rfl, ?_⟩; have n0_ := Aside0.mk (below_step (by repeat (first | (with_reducible first | exact HB.out | apply below_alloc | apply pw_below_drewN | apply below_drew1) | exact HB.out)) hb); clear HB; have HB := n0_; clear n0_; (try clear hb); (try clear hb2); (try clear hk); (try clear hi)))
                              go_ret
                              exact ⟨by first | rfl | (simp [errW_none, errW_some] <;> rfl) | (simp only [← hji45]; first | rfl | (simp [errW_none, errW_some] <;> rfl)) | (simp [*, errW_none, errW_some] <;> rfl), by repeat (first | (with_reducible first | exact HB.out | apply below_alloc | apply pw_below_drewN | apply below_drew1) | exact HB.out)⟩
                            · rw [if_neg c53] at H
                              have c53b0 : decide (t434 ≤ 604799) = false := decide_eq_false c53
                              clear c53
                              exact absurd H (by simp)
                          · rw [if_neg c52] at H
                            have c52b0 : decide ((-604799) ≤ t434) = false := decide_eq_false c52
                            clear c52
                            exact absurd H (by simp)
                        · replace c51 := Bool.eq_false_iff.mpr c51
                          subst c51
                          have H1 : (some false) = some true := by rw [if_neg (show ¬ (false = true) by decide)] at H; exact H
                          clear H
                          have H := H1
                          clear H1
                          exact absurd H (by simp)
                      · replace c50 := Bool.eq_false_iff.mpr c50
                        subst c50
                        have H1 : (some false) = some true := by rw [if_neg (show ¬ (false = true) by decide)] at H; exact H
                        clear H
                        have H := H1
                        clear H1
                        exact absurd H (by simp)
                    · rw [if_neg c49] at H
                      have c49b0 : decide ((t435.size : Int) < (a1.size : Int)) = false := decide_eq_false c49
                      have c49b1 : decide (t435.size < a1.size) = false := decide_eq_false (fun h => c49 (Int.ofNat_lt.mpr h))
                      clear c49
                      by_cases c56 : t436 = true
                      · subst c56
                        have H1 : (some false) = some true := by rw [if_pos rfl] at H; exact H
                        clear H
                        have H := H1
                        clear H1
                        exact absurd H (by simp)
                      · replace c56 := Bool.eq_false_iff.mpr c56
                        subst c56
                        have H1 : (if t425 = true then (if t434 ≥ (-604799) then (if t434 ≤ 604799 then (some (t434 == 0)) else (some false)) else (some false)) else (some false)) = some true := by rw [if_neg (show ¬ (false = true) by decide)] at H; exact H
                        clear H
                        have H := H1
                        clear H1
                        by_cases c57 : t425 = true
                        · subst c57
                          have H1 : (if t434 ≥ (-604799) then (if t434 ≤ 604799 then (some (t434 == 0)) else (some false)) else (some false)) = some true := by rw [if_pos rfl] at H; exact H
                          clear H
                          have H := H1
                          clear H1
                          by_cases c58 : t434 ≥ (-604799)
                          · rw [if_pos c58] at H
                            have c58b0 : decide ((-604799) ≤ t434) = true := decide_eq_true c58
                            clear c58
                            by_cases c59 : t434 ≤ 604799
                            · rw [if_pos c59] at H
                              have c59b0 : decide (t434 ≤ 604799) = true := decide_eq_true c59
                              clear c59
                              have hT := Option.some.inj H
                              clear H
                              try have hT2 : ((t434 == 0)) = true := by simpa using hT
                              go_wp2_with (first | ((with_reducible refine gate_callee (f := 24) rfl ?_); refine goesL_ (some 52) rfl rfl Tryd.func24 (by kernel_rfl) rfl #[.string a1] rfl (by (try simp only [List.map_toArray, List.map_cons, List.map_nil]); first | done | rfl | (simp only [List.length_drop, List.length_take]; rfl)) ?_; (with_reducible refine (rule_Time.calls kj7 a1 t434 t435 false _ ?side760 A43.out).mono ?_); (case side760 => first | exact hG | exact hG.at1 HB | exact hG.drewN _ | (refine hG.below ?_; repeat (first | (with_reducible first | exact HB.out | apply below_alloc | apply pw_below_drewN | apply below_drew1) | exact HB.out))); rintro e w61 ⟨rfl, hb⟩; refine ⟨_, rfl, ?_⟩; have n0_ := Aside0.mk (below_step (by repeat (first | (with_reducible first | exact HB.out | apply below_alloc | apply pw_below_drewN | apply below_drew1) | exact HB.out)) hb); clear HB; have HB := n0_; clear n0_; (try clear hb); (try clear hb2); (try clear hk); (try clear hi)))
                              go_ret
                              exact ⟨by first | rfl | (simp [errW_none, errW_some] <;> rfl) | (simp only [← hji45]; first | rfl | (simp [errW_none, errW_some] <;> rfl)) | (simp [*, errW_none, errW_some] <;> rfl), by repeat (first | (with_reducible first | exact HB.out | apply below_alloc | apply pw_below_drewN | apply below_drew1) | exact HB.out)⟩
                            · rw [if_neg c59] at H
                              have c59b0 : decide (t434 ≤ 604799) = false := decide_eq_false c59
                              clear c59
                              exact absurd H (by simp)
                          · rw [if_neg c58] at H
                            have c58b0 : decide ((-604799) ≤ t434) = false := decide_eq_false c58
                            clear c58
                            exact absurd H (by simp)
                        · replace c57 := Bool.eq_false_iff.mpr c57
                          subst c57
                          have H1 : (some false) = some true := by rw [if_neg (show ¬ (false = true) by decide)] at H; exact H
                          clear H
                          have H := H1
                          clear H1
                          exact absurd H (by simp)
                  · rw [if_neg c48] at H
                    have c48b0 : ((a1.extract ((ji45) : Int).toNat a1.size).toList == t435.toList) = false := beq_eq_false_iff_ne.mpr c48
                    have c48b1 : ((a1.extract ((ji45) : Int).toNat a1.size).toList != t435.toList) = true := bne_iff_ne.mpr c48
                    exact absurd H (by simp)
                · rw [if_neg c47] at H
                  exact absurd H (by simp)
              · rw [if_neg c46] at H
                exact absurd H (by simp)

/-- THE ONE PURE STATEMENT of epactlaw17_RuleTimes: yours. -/
def epactlaw17_RuleTimes.Pure : Prop := ∀ (a0 : Int) (a1 : ByteArray), (Lit.int .i64 a0).wf = true → a1.size ≤ 140737488351232 → ∃ k, epactlaw17_RuleTimes.f k a0 a1 = some true
theorem epactlaw17_RuleTimes.walk (P : epactlaw17_RuleTimes.Pure) (a0 : Int) (a1 : ByteArray) (w : World) (hG : GW w) (w0 : (Lit.int .i64 a0).wf = true) (w1 : a1.size ≤ 140737488351232) :
    Calls Tryd.prog 9 #[.int .i64 a0, .string a1] w fun e w' => e = .returned (.bool true) ∧ Below w.heap.size w w' := by
  obtain ⟨k, h⟩ := P a0 a1 w0 w1
  refine (epactlaw17_RuleTimes.calls k a0 a1 w hG h).mono ?_
  rintro e w' ⟨rfl, hd⟩
  exact ⟨rfl, hd⟩

end Go.Proofs.YtghjemcbkackjaaDoor.P
