-- written by this project's program mkprint.py out of the translation; Lean checks it
import Derived.Test.YtghjemcbkackjaaDoorPx0
import Derived.Test.YtghjemcbkackjaaDoorPx2
namespace Go.Proofs.YtghjemcbkackjaaDoor.P
open Go.Proofs.YtghjemcbkackjaaDoor.F
open Go.RowKit Go.Proofs.YtghjemcbkackjaaDoorW.PrintWords Go.Proofs.YtghjemcbkackjaaDoorW.PrintLast Go.Proofs.YtghjemcbkackjaaDoorW.PrintMore
attribute [local go_sem] max2_int min2_int max_two min_two max_three min_three max_four min_four   -- for this text's walks alone
set_option linter.unusedVariables false
set_option linter.unusedSimpArgs false

/-! ### rule_sixty: function 49 -/
def rule_sixty.f (a0 : ByteArray) : Option (Int × ByteArray × Bool) := if (a0.size : Int) < 3 then (some (0, a0, false)) else (if 0 < (a0.size : Int) then (if (bt a0 0) = 58 then (if 1 ≤ (a0.size : Int) then ((rule_digits.f (a0.extract 1 a0.size)).bind fun t110 => (if t110 < 2 then (some (0, a0, false)) else (if 1 < (a0.size : Int) then (if (bt a0 1) > 53 then (some (0, a0, false)) else (if 1 ≤ 3 then (if 3 ≤ (a0.size : Int) then ((strconv_Atoi.f (a0.extract 1 3)).bind fun bt111 => (some (bt111.1, a0.extract 3 a0.size, true))) else (none)) else (none))) else (none)))) else (none)) else (some (0, a0, false))) else (none))
set_option maxHeartbeats 8000000 in
set_option maxRecDepth 100000 in
theorem rule_sixty.calls (a0 : ByteArray) (r1 : Int) (r2 : ByteArray) (r3 : Bool) (w : World) (hG : GW w) (h : rule_sixty.f a0 = some (r1, r2, r3)) :
    Calls Tryd.prog 49 #[.string a0] w fun e w' => e = .returned (.tuple #[.int .i64 r1, .string r2, .bool r3]) ∧ Below w.heap.size w w' := by
  have HB := Aside0.mk (Below.refl w.heap.size w)
  have H : (if (a0.size : Int) < 3 then (some (0, a0, false)) else (if 0 < (a0.size : Int) then (if (bt a0 0) = 58 then (if 1 ≤ (a0.size : Int) then ((rule_digits.f (a0.extract 1 a0.size)).bind fun t110 => (if t110 < 2 then (some (0, a0, false)) else (if 1 < (a0.size : Int) then (if (bt a0 1) > 53 then (some (0, a0, false)) else (if 1 ≤ 3 then (if 3 ≤ (a0.size : Int) then ((strconv_Atoi.f (a0.extract 1 3)).bind fun bt111 => (some (bt111.1, a0.extract 3 a0.size, true))) else (none)) else (none))) else (none)))) else (none)) else (some (0, a0, false))) else (none))) = some (r1, r2, r3) := h
  clear h
  by_cases c2 : (a0.size : Int) < 3
  · rw [if_pos c2] at H
    have c2b0 : decide ((a0.size : Int) < 3) = true := decide_eq_true c2
    have c2b1 : decide (a0.size < 3) = true := decide_eq_true (by omega)
    clear c2
    simp only [Option.some.injEq, Prod.mk.injEq] at H
    obtain ⟨rfl, rfl, rfl⟩ := H
    go_enter Tryd.func49, Tryd.ntmps49
    go_wp2
    repeat (go_quiet (fail); try go_wp2)
    go_ret3
    exact ⟨by first | rfl | (simp [errW_none, errW_some] <;> rfl) | (simp [*, errW_none, errW_some] <;> rfl), by repeat (first | (with_reducible first | exact HB.out | apply ba | apply bn | apply bd) | exact HB.out)⟩
  · rw [if_neg c2] at H
    have c2b0 : decide ((a0.size : Int) < 3) = false := decide_eq_false c2
    have c2b1 : decide (a0.size < 3) = false := decide_eq_false (by omega)
    clear c2
    by_cases c3 : 0 < (a0.size : Int)
    · rw [if_pos c3] at H
      have c3b0 : decide (0 < (a0.size : Int)) = true := decide_eq_true c3
      have c3b1 : decide (0 < a0.size) = true := decide_eq_true (by omega)
      clear c3
      by_cases c5 : (bt a0 0) = 58
      · rw [if_pos c5] at H
        have c5b0 : ((bt a0 0) == 58) = true := beq_iff_eq.mpr c5
        have c5b1 : ((bt a0 0) != 58) = false := bne_eq_false_iff_eq.mpr c5
        clear c5
        by_cases c6 : 1 ≤ (a0.size : Int)
        · rw [if_pos c6] at H
          have c6b0 := eq_true c6
          have c6b1 : decide (1 ≤ (a0.size : Int)) = true := decide_eq_true c6
          clear c6
          replace H := Option.bind_eq_some_iff.mp H
          obtain ⟨t110, A70, H⟩ := H
          replace H : (if t110 < 2 then (some (0, a0, false)) else (if 1 < (a0.size : Int) then (if (bt a0 1) > 53 then (some (0, a0, false)) else (if 1 ≤ 3 then (if 3 ≤ (a0.size : Int) then ((strconv_Atoi.f (a0.extract 1 3)).bind fun bt111 => (some (bt111.1, a0.extract 3 a0.size, true))) else (none)) else (none))) else (none))) = some (r1, r2, r3) := H
          have A7 := Aside0.mk A70
          clear A70
          by_cases c8 : t110 < 2
          · rw [if_pos c8] at H
            have c8b0 : decide (t110 < 2) = true := decide_eq_true c8
            clear c8
            simp only [Option.some.injEq, Prod.mk.injEq] at H
            obtain ⟨rfl, rfl, rfl⟩ := H
            have p4 : 0 ≤ (0 : Int) := (by omega)
            have q4 : 0 < a0.size := (by have : (0 : Int) < (a0.size : Int) := of_decide_eq_true (by first | (with_reducible assumption) | assumption); omega)
            have hx4 : ∀ h : 0 < a0.size, ((a0[0]'h).toNat : Int) = bt a0 0 := bt_at a0 0
            clear p4
            have qi4 : (0 < (a0.size : Int)) = True := eq_true (of_decide_eq_true (by first | (with_reducible assumption) | assumption))
            replace q4 := eq_true q4
            go_enter Tryd.func49, Tryd.ntmps49
            go_wp2_with (first | (go_at_call 47; (with_reducible refine (rule_digits.calls (a0.extract 1 a0.size) t110 _ ?side709 A7.out).mono ?_); (case side709 => refine hG.below ?_; repeat (first | (with_reducible first | exact HB.out | apply ba | apply bn | apply bd) | exact HB.out)); rintro e w10 ⟨rfl, hb⟩; have n0_ := Aside0.mk (below_step (by repeat (first | (with_reducible first | exact HB.out | apply ba | apply bn | apply bd) | exact HB.out)) hb); clear HB; have HB := n0_; clear n0_; (try clear hb)))
            repeat (go_quiet (first | (go_at_call 47; (with_reducible refine (rule_digits.calls (a0.extract 1 a0.size) t110 _ ?side709 A7.out).mono ?_); (case side709 => refine hG.below ?_; repeat (first | (with_reducible first | exact HB.out | apply ba | apply bn | apply bd) | exact HB.out)); rintro e w10 ⟨rfl, hb⟩; have n0_ := Aside0.mk (below_step (by repeat (first | (with_reducible first | exact HB.out | apply ba | apply bn | apply bd) | exact HB.out)) hb); clear HB; have HB := n0_; clear n0_; (try clear hb))); try go_wp2_with (first | (go_at_call 47; (with_reducible refine (rule_digits.calls (a0.extract 1 a0.size) t110 _ ?side709 A7.out).mono ?_); (case side709 => refine hG.below ?_; repeat (first | (with_reducible first | exact HB.out | apply ba | apply bn | apply bd) | exact HB.out)); rintro e w10 ⟨rfl, hb⟩; have n0_ := Aside0.mk (below_step (by repeat (first | (with_reducible first | exact HB.out | apply ba | apply bn | apply bd) | exact HB.out)) hb); clear HB; have HB := n0_; clear n0_; (try clear hb))))
            go_ret3
            exact ⟨by first | rfl | (simp [errW_none, errW_some] <;> rfl) | (simp [*, errW_none, errW_some] <;> rfl), by repeat (first | (with_reducible first | exact HB.out | apply ba | apply bn | apply bd) | exact HB.out)⟩
          · rw [if_neg c8] at H
            have c8b0 : decide (t110 < 2) = false := decide_eq_false c8
            clear c8
            by_cases c11 : 1 < (a0.size : Int)
            · rw [if_pos c11] at H
              have c11b0 : decide (1 < (a0.size : Int)) = true := decide_eq_true c11
              have c11b1 : decide (1 < a0.size) = true := decide_eq_true (by omega)
              clear c11
              by_cases c13 : (bt a0 1) > 53
              · rw [if_pos c13] at H
                have c13b0 : decide (53 < (bt a0 1)) = true := decide_eq_true c13
                clear c13
                simp only [Option.some.injEq, Prod.mk.injEq] at H
                obtain ⟨rfl, rfl, rfl⟩ := H
                have p4 : 0 ≤ (0 : Int) := (by omega)
                have q4 : 0 < a0.size := (by have : (0 : Int) < (a0.size : Int) := of_decide_eq_true (by first | (with_reducible assumption) | assumption); omega)
                have hx4 : ∀ h : 0 < a0.size, ((a0[0]'h).toNat : Int) = bt a0 0 := bt_at a0 0
                clear p4
                have qi4 : (0 < (a0.size : Int)) = True := eq_true (of_decide_eq_true (by first | (with_reducible assumption) | assumption))
                replace q4 := eq_true q4
                go_enter Tryd.func49, Tryd.ntmps49
                go_wp2_with (first | (go_at_call 47; (with_reducible refine (rule_digits.calls (a0.extract 1 a0.size) t110 _ ?side714 A7.out).mono ?_); (case side714 => refine hG.below ?_; repeat (first | (with_reducible first | exact HB.out | apply ba | apply bn | apply bd) | exact HB.out)); rintro e w15 ⟨rfl, hb⟩; have n0_ := Aside0.mk (below_step (by repeat (first | (with_reducible first | exact HB.out | apply ba | apply bn | apply bd) | exact HB.out)) hb); clear HB; have HB := n0_; clear n0_; (try clear hb); have p12 : 0 ≤ (1 : Int) := (by omega); have q12 : 1 < a0.size := (by have : (1 : Int) < (a0.size : Int) := of_decide_eq_true (by first | (with_reducible assumption) | assumption); omega); have hx12 : ∀ h : 1 < a0.size, ((a0[1]'h).toNat : Int) = bt a0 1 := bt_at a0 1; clear p12; have qi12 : (1 < (a0.size : Int)) = True := eq_true (of_decide_eq_true (by first | (with_reducible assumption) | assumption)); replace q12 := eq_true q12))
                repeat (go_quiet (first | (go_at_call 47; (with_reducible refine (rule_digits.calls (a0.extract 1 a0.size) t110 _ ?side714 A7.out).mono ?_); (case side714 => refine hG.below ?_; repeat (first | (with_reducible first | exact HB.out | apply ba | apply bn | apply bd) | exact HB.out)); rintro e w15 ⟨rfl, hb⟩; have n0_ := Aside0.mk (below_step (by repeat (first | (with_reducible first | exact HB.out | apply ba | apply bn | apply bd) | exact HB.out)) hb); clear HB; have HB := n0_; clear n0_; (try clear hb); have p12 : 0 ≤ (1 : Int) := (by omega); have q12 : 1 < a0.size := (by have : (1 : Int) < (a0.size : Int) := of_decide_eq_true (by first | (with_reducible assumption) | assumption); omega); have hx12 : ∀ h : 1 < a0.size, ((a0[1]'h).toNat : Int) = bt a0 1 := bt_at a0 1; clear p12; have qi12 : (1 < (a0.size : Int)) = True := eq_true (of_decide_eq_true (by first | (with_reducible assumption) | assumption)); replace q12 := eq_true q12)); try go_wp2_with (first | (go_at_call 47; (with_reducible refine (rule_digits.calls (a0.extract 1 a0.size) t110 _ ?side714 A7.out).mono ?_); (case side714 => refine hG.below ?_; repeat (first | (with_reducible first | exact HB.out | apply ba | apply bn | apply bd) | exact HB.out)); rintro e w15 ⟨rfl, hb⟩; have n0_ := Aside0.mk (below_step (by repeat (first | (with_reducible first | exact HB.out | apply ba | apply bn | apply bd) | exact HB.out)) hb); clear HB; have HB := n0_; clear n0_; (try clear hb); have p12 : 0 ≤ (1 : Int) := (by omega); have q12 : 1 < a0.size := (by have : (1 : Int) < (a0.size : Int) := of_decide_eq_true (by first | (with_reducible assumption) | assumption); omega); have hx12 : ∀ h : 1 < a0.size, ((a0[1]'h).toNat : Int) = bt a0 1 := bt_at a0 1; clear p12; have qi12 : (1 < (a0.size : Int)) = True := eq_true (of_decide_eq_true (by first | (with_reducible assumption) | assumption)); replace q12 := eq_true q12)))
                go_ret3
                exact ⟨by first | rfl | (simp [errW_none, errW_some] <;> rfl) | (simp [*, errW_none, errW_some] <;> rfl), by repeat (first | (with_reducible first | exact HB.out | apply ba | apply bn | apply bd) | exact HB.out)⟩
              · rw [if_neg c13] at H
                have c13b0 : decide (53 < (bt a0 1)) = false := decide_eq_false c13
                clear c13
                by_cases c16 : 1 ≤ 3
                · rw [if_pos c16] at H
                  have c16b0 := eq_true c16
                  have c16b1 : decide (1 ≤ 3) = true := decide_eq_true c16
                  clear c16
                  by_cases c17 : 3 ≤ (a0.size : Int)
                  · rw [if_pos c17] at H
                    have c17b0 := eq_true c17
                    have c17b1 : decide (3 ≤ (a0.size : Int)) = true := decide_eq_true c17
                    clear c17
                    replace H := Option.bind_eq_some_iff.mp H
                    obtain ⟨⟨t111, t112⟩, A180, H⟩ := H
                    replace H : (some (t111, a0.extract 3 a0.size, true)) = some (r1, r2, r3) := H
                    have A18 := Aside0.mk A180
                    clear A180
                    have c19b0 := eq_true (of_decide_eq_true (by first | (with_reducible assumption) | assumption) : 3 ≤ (a0.size : Int))
                    simp only [Option.some.injEq, Prod.mk.injEq] at H
                    obtain ⟨rfl, rfl, rfl⟩ := H
                    have p4 : 0 ≤ (0 : Int) := (by omega)
                    have q4 : 0 < a0.size := (by have : (0 : Int) < (a0.size : Int) := of_decide_eq_true (by first | (with_reducible assumption) | assumption); omega)
                    have hx4 : ∀ h : 0 < a0.size, ((a0[0]'h).toNat : Int) = bt a0 0 := bt_at a0 0
                    clear p4
                    have qi4 : (0 < (a0.size : Int)) = True := eq_true (of_decide_eq_true (by first | (with_reducible assumption) | assumption))
                    replace q4 := eq_true q4
                    go_enter Tryd.func49, Tryd.ntmps49
                    go_wp2_with (first | (go_at_call 47; (with_reducible refine (rule_digits.calls (a0.extract 1 a0.size) t110 _ ?side720 A7.out).mono ?_); (case side720 => refine hG.below ?_; repeat (first | (with_reducible first | exact HB.out | apply ba | apply bn | apply bd) | exact HB.out)); rintro e w21 ⟨rfl, hb⟩; have n0_ := Aside0.mk (below_step (by repeat (first | (with_reducible first | exact HB.out | apply ba | apply bn | apply bd) | exact HB.out)) hb); clear HB; have HB := n0_; clear n0_; (try clear hb); have p12 : 0 ≤ (1 : Int) := (by omega); have q12 : 1 < a0.size := (by have : (1 : Int) < (a0.size : Int) := of_decide_eq_true (by first | (with_reducible assumption) | assumption); omega); have hx12 : ∀ h : 1 < a0.size, ((a0[1]'h).toNat : Int) = bt a0 1 := bt_at a0 1; clear p12; have qi12 : (1 < (a0.size : Int)) = True := eq_true (of_decide_eq_true (by first | (with_reducible assumption) | assumption)); replace q12 := eq_true q12) | (go_at_call 48; (with_reducible refine (strconv_Atoi.calls (a0.extract 1 3) t111 t112 _ ?side722 A18.out).mono ?_); (case side722 => refine hG.below ?_; repeat (first | (with_reducible first | exact HB.out | apply ba | apply bn | apply bd) | exact HB.out)); rintro e w23 ⟨rfl, hb⟩; have n0_ := Aside0.mk (below_step (by repeat (first | (with_reducible first | exact HB.out | apply ba | apply bn | apply bd) | exact HB.out)) hb); clear HB; have HB := n0_; clear n0_; (try clear hb); (try simp only [errW_none, errW_some])))
                    repeat (go_quiet (first | (go_at_call 47; (with_reducible refine (rule_digits.calls (a0.extract 1 a0.size) t110 _ ?side720 A7.out).mono ?_); (case side720 => refine hG.below ?_; repeat (first | (with_reducible first | exact HB.out | apply ba | apply bn | apply bd) | exact HB.out)); rintro e w21 ⟨rfl, hb⟩; have n0_ := Aside0.mk (below_step (by repeat (first | (with_reducible first | exact HB.out | apply ba | apply bn | apply bd) | exact HB.out)) hb); clear HB; have HB := n0_; clear n0_; (try clear hb); have p12 : 0 ≤ (1 : Int) := (by omega); have q12 : 1 < a0.size := (by have : (1 : Int) < (a0.size : Int) := of_decide_eq_true (by first | (with_reducible assumption) | assumption); omega); have hx12 : ∀ h : 1 < a0.size, ((a0[1]'h).toNat : Int) = bt a0 1 := bt_at a0 1; clear p12; have qi12 : (1 < (a0.size : Int)) = True := eq_true (of_decide_eq_true (by first | (with_reducible assumption) | assumption)); replace q12 := eq_true q12) | (go_at_call 48; (with_reducible refine (strconv_Atoi.calls (a0.extract 1 3) t111 t112 _ ?side722 A18.out).mono ?_); (case side722 => refine hG.below ?_; repeat (first | (with_reducible first | exact HB.out | apply ba | apply bn | apply bd) | exact HB.out)); rintro e w23 ⟨rfl, hb⟩; have n0_ := Aside0.mk (below_step (by repeat (first | (with_reducible first | exact HB.out | apply ba | apply bn | apply bd) | exact HB.out)) hb); clear HB; have HB := n0_; clear n0_; (try clear hb); (try simp only [errW_none, errW_some]))); try go_wp2_with (first | (go_at_call 47; (with_reducible refine (rule_digits.calls (a0.extract 1 a0.size) t110 _ ?side720 A7.out).mono ?_); (case side720 => refine hG.below ?_; repeat (first | (with_reducible first | exact HB.out | apply ba | apply bn | apply bd) | exact HB.out)); rintro e w21 ⟨rfl, hb⟩; have n0_ := Aside0.mk (below_step (by repeat (first | (with_reducible first | exact HB.out | apply ba | apply bn | apply bd) | exact HB.out)) hb); clear HB; have HB := n0_; clear n0_; (try clear hb); have p12 : 0 ≤ (1 : Int) := (by omega); have q12 : 1 < a0.size := (by have : (1 : Int) < (a0.size : Int) := of_decide_eq_true (by first | (with_reducible assumption) | assumption); omega); have hx12 : ∀ h : 1 < a0.size, ((a0[1]'h).toNat : Int) = bt a0 1 := bt_at a0 1; clear p12; have qi12 : (1 < (a0.size : Int)) = True := eq_true (of_decide_eq_true (by first | (with_reducible assumption) | assumption)); replace q12 := eq_true q12) | (go_at_call 48; (with_reducible refine (strconv_Atoi.calls (a0.extract 1 3) t111 t112 _ ?side722 A18.out).mono ?_); (case side722 => refine hG.below ?_; repeat (first | (with_reducible first | exact HB.out | apply ba | apply bn | apply bd) | exact HB.out)); rintro e w23 ⟨rfl, hb⟩; have n0_ := Aside0.mk (below_step (by repeat (first | (with_reducible first | exact HB.out | apply ba | apply bn | apply bd) | exact HB.out)) hb); clear HB; have HB := n0_; clear n0_; (try clear hb); (try simp only [errW_none, errW_some]))))
                    go_ret3
                    exact ⟨by first | rfl | (simp [errW_none, errW_some] <;> rfl) | (simp [*, errW_none, errW_some] <;> rfl), by repeat (first | (with_reducible first | exact HB.out | apply ba | apply bn | apply bd) | exact HB.out)⟩
                  · rw [if_neg c17] at H
                    exact absurd H (by simp)
                · rw [if_neg c16] at H
                  exact absurd H (by simp)
            · rw [if_neg c11] at H
              exact absurd H (by simp)
        · rw [if_neg c6] at H
          exact absurd H (by simp)
      · rw [if_neg c5] at H
        have c5b0 : ((bt a0 0) == 58) = false := beq_eq_false_iff_ne.mpr c5
        have c5b1 : ((bt a0 0) != 58) = true := bne_iff_ne.mpr c5
        simp only [Option.some.injEq, Prod.mk.injEq] at H
        obtain ⟨rfl, rfl, rfl⟩ := H
        have p4 : 0 ≤ (0 : Int) := (by omega)
        have q4 : 0 < a0.size := (by have : (0 : Int) < (a0.size : Int) := of_decide_eq_true (by first | (with_reducible assumption) | assumption); omega)
        have hx4 : ∀ h : 0 < a0.size, ((a0[0]'h).toNat : Int) = bt a0 0 := bt_at a0 0
        clear p4
        have qi4 : (0 < (a0.size : Int)) = True := eq_true (of_decide_eq_true (by first | (with_reducible assumption) | assumption))
        replace q4 := eq_true q4
        go_enter Tryd.func49, Tryd.ntmps49
        go_wp2
        repeat (go_quiet (fail); try go_wp2)
        go_ret3
        exact ⟨by first | rfl | (simp [errW_none, errW_some] <;> rfl) | (simp [*, errW_none, errW_some] <;> rfl), by repeat (first | (with_reducible first | exact HB.out | apply ba | apply bn | apply bd) | exact HB.out)⟩
    · rw [if_neg c3] at H
      exact absurd H (by simp)

/-! ### rule_more: function 50 -/
def rule_more.f (a0 : ByteArray) (a1 : Bool) : Option (Int × ByteArray × Bool) := if a1 = true then ((rule_sixty.f a0).bind fun bt113 => (some (bt113.1, bt113.2.1, bt113.2.2))) else (some (0, a0, false))
set_option maxHeartbeats 8000000 in
set_option maxRecDepth 100000 in
theorem rule_more.calls (a0 : ByteArray) (a1 : Bool) (r1 : Int) (r2 : ByteArray) (r3 : Bool) (w : World) (hG : GW w) (h : rule_more.f a0 a1 = some (r1, r2, r3)) :
    Calls Tryd.prog 50 #[.string a0, .bool a1] w fun e w' => e = .returned (.tuple #[.int .i64 r1, .string r2, .bool r3]) ∧ Below w.heap.size w w' := by
  have HB := Aside0.mk (Below.refl w.heap.size w)
  have H : (if a1 = true then ((rule_sixty.f a0).bind fun bt113 => (some (bt113.1, bt113.2.1, bt113.2.2))) else (some (0, a0, false))) = some (r1, r2, r3) := h
  clear h
  by_cases c3 : a1 = true
  · subst c3
    have H1 : ((rule_sixty.f a0).bind fun bt113 => (some (bt113.1, bt113.2.1, bt113.2.2))) = some (r1, r2, r3) := by rw [if_pos rfl] at H; exact H
    clear H
    have H := H1
    clear H1
    replace H := Option.bind_eq_some_iff.mp H
    obtain ⟨⟨t113, t114, t115⟩, A40, H⟩ := H
    replace H : (some (t113, t114, t115)) = some (r1, r2, r3) := H
    have A4 := Aside0.mk A40
    clear A40
    simp only [Option.some.injEq, Prod.mk.injEq] at H
    obtain ⟨rfl, rfl, rfl⟩ := H
    go_enter Tryd.func50, Tryd.ntmps50
    go_wp2_with (first | ((with_reducible refine gate_callee (f := 49) rfl ?_); refine goesL_ (some 11) rfl rfl Tryd.func49 (by kernel_rfl) rfl #[.string a0] rfl (by (try simp only [List.map_toArray, List.map_cons, List.map_nil]); first | done | rfl | (simp only [List.length_drop, List.length_take]; rfl)) ?_; (with_reducible refine (rule_sixty.calls a0 t113 t114 t115 _ ?side705 A4.out).mono ?_); (case side705 => refine hG.below ?_; repeat (first | (with_reducible first | exact HB.out | apply ba | apply bn | apply bd) | exact HB.out)); rintro e w6 ⟨rfl, hb⟩; refine ⟨_, rfl, ?_⟩; have n0_ := Aside0.mk (below_step (by repeat (first | (with_reducible first | exact HB.out | apply ba | apply bn | apply bd) | exact HB.out)) hb); clear HB; have HB := n0_; clear n0_; (try clear hb)))
    go_ret3
    exact ⟨by first | rfl | (simp [errW_none, errW_some] <;> rfl) | (simp [*, errW_none, errW_some] <;> rfl), by repeat (first | (with_reducible first | exact HB.out | apply ba | apply bn | apply bd) | exact HB.out)⟩
  · replace c3 := Bool.eq_false_iff.mpr c3
    subst c3
    have H1 : (some (0, a0, false)) = some (r1, r2, r3) := by rw [if_neg (show ¬ (false = true) by decide)] at H; exact H
    clear H
    have H := H1
    clear H1
    simp only [Option.some.injEq, Prod.mk.injEq] at H
    obtain ⟨rfl, rfl, rfl⟩ := H
    go_enter Tryd.func50, Tryd.ntmps50
    go_wp2
    go_ret3
    exact ⟨by first | rfl | (simp [errW_none, errW_some] <;> rfl) | (simp [*, errW_none, errW_some] <;> rfl), by repeat (first | (with_reducible first | exact HB.out | apply ba | apply bn | apply bd) | exact HB.out)⟩

/-! ### rule_Time: function 24 -/
def rule_Time.j0 : Nat → ByteArray → ByteArray → Int → Option (Int × ByteArray × Bool)
  | 0, _, _, _ => none
  | k + 1, x0, x5, x6 => (rule_digits.f x5).bind fun t118 => (if (mn t118 3) = 0 then (some (0, x0, false)) else (if 0 ≤ (mn t118 3) then (if (mn t118 3) ≤ (x5.size : Int) then ((strconv_Atoi.f (x5.extract 0 ((mn t118 3) : Int).toNat)).bind fun bt119 => (if bt119.1 > 167 then (if 0 ≤ (wrap64 ((mn t118 3) - 1)) then (if (wrap64 ((mn t118 3) - 1)) ≤ (x5.size : Int) then ((rule_sixty.f (x5.extract ((wrap64 ((mn t118 3) - 1)) : Int).toNat x5.size)).bind fun bt121 => ((rule_more.f bt121.2.1 bt121.2.2).bind fun bt124 => (some (wrap64 (x6 * (wrap64 ((wrap64 ((wrap64 ((wrap64 (Int.tdiv bt119.1 10)) * 3600)) + (wrap64 (bt121.1 * 60)))) + bt124.1))), bt124.2.1, true)))) else (none)) else (none)) else ((rule_sixty.f (x5.extract ((mn t118 3) : Int).toNat x5.size)).bind fun bt127 => ((rule_more.f bt127.2.1 bt127.2.2).bind fun bt130 => (some (wrap64 (x6 * (wrap64 ((wrap64 ((wrap64 (bt119.1 * 3600)) + (wrap64 (bt127.1 * 60)))) + bt130.1))), bt130.2.1, true)))))) else (none)) else (none)))
def rule_Time.f (k : Nat) (a0 : ByteArray) : Option (Int × ByteArray × Bool) := (strings_TrimPrefix.f a0 (⟨#[45]⟩ : ByteArray)).bind fun t116 => (if (t116.size : Int) = (a0.size : Int) then ((strings_TrimPrefix.f a0 (⟨#[43]⟩ : ByteArray)).bind fun t117 => (rule_Time.j0 k a0 t117 1)) else (rule_Time.j0 k a0 t116 (-1)))
theorem rule_Time.mono_l : ∀ k, (∀ y0 y1 y2, LeO (rule_Time.j0 k y0 y1 y2) (rule_Time.j0 (k + 1) y0 y1 y2))
  | 0 => fun _ _ _ r h => by simp [rule_Time.j0] at h
  | k + 1 => by
    have ih0 := rule_Time.mono_l k
    · intro y0 y1 y2
      unfold rule_Time.j0
      repeat' first
      | (with_reducible exact ih0 _ _ _)
      | (with_reducible exact LeO.refl _)
      | (with_reducible exact LeO.none _)
      | (with_reducible refine LeO.ite ?_ ?_)
      | (with_reducible refine LeO.bind ?_ (fun _ => ?_))
      | exact ih0 _ _ _
      | exact LeO.none _
      | refine LeO.ite ?_ ?_
      | refine LeO.bind ?_ (fun _ => ?_)
theorem rule_Time.mono : ∀ a0 k, LeO (rule_Time.f k a0) (rule_Time.f (k + 1) a0) := by
  intro a0 k
  have ih0 := rule_Time.mono_l k
  unfold rule_Time.f
  repeat' first
      | (with_reducible exact ih0 _ _ _)
      | (with_reducible exact LeO.refl _)
      | (with_reducible exact LeO.none _)
      | (with_reducible refine LeO.ite ?_ ?_)
      | (with_reducible refine LeO.bind ?_ (fun _ => ?_))
      | exact ih0 _ _ _
      | exact LeO.none _
      | refine LeO.ite ?_ ?_
      | refine LeO.bind ?_ (fun _ => ?_)
set_option maxHeartbeats 8000000 in
set_option maxRecDepth 100000 in
theorem rule_Time.calls (k : Nat) (a0 : ByteArray) (r1 : Int) (r2 : ByteArray) (r3 : Bool) (w : World) (hG : GW w) (h : rule_Time.f k a0 = some (r1, r2, r3)) :
    Calls Tryd.prog 24 #[.string a0] w fun e w' => e = .returned (.tuple #[.int .i64 r1, .string r2, .bool r3]) ∧ Below w.heap.size w w' := by
  have HB := Aside0.mk (Below.refl w.heap.size w)
  have H : ((strings_TrimPrefix.f a0 (⟨#[45]⟩ : ByteArray)).bind fun t116 => (if (t116.size : Int) = (a0.size : Int) then ((strings_TrimPrefix.f a0 (⟨#[43]⟩ : ByteArray)).bind fun t117 => (rule_Time.j0 k a0 t117 1)) else (rule_Time.j0 k a0 t116 (-1)))) = some (r1, r2, r3) := h
  clear h
  replace H := Option.bind_eq_some_iff.mp H
  obtain ⟨t116, A20, H⟩ := H
  replace H : (if (t116.size : Int) = (a0.size : Int) then ((strings_TrimPrefix.f a0 (⟨#[43]⟩ : ByteArray)).bind fun t117 => (rule_Time.j0 k a0 t117 1)) else (rule_Time.j0 k a0 t116 (-1))) = some (r1, r2, r3) := H
  have A2 := Aside0.mk A20
  clear A20
  have HC3 := Aside0.mk H
  clear H
  go_enter Tryd.func24, Tryd.ntmps24
  go_upto_if 21 with (first | ((with_reducible refine gate_callee (f := 46) rfl ?_); refine goesL_ (some 16) rfl rfl Tryd.func46 (by kernel_rfl) rfl #[.string a0, .string (⟨#[45]⟩ : ByteArray)] rfl (by (try simp only [List.map_toArray, List.map_cons, List.map_nil]); first | done | rfl | (simp only [List.length_drop, List.length_take]; rfl)) ?_; (with_reducible refine (strings_TrimPrefix.calls a0 (⟨#[45]⟩ : ByteArray) t116 _ ?side704 A2.out).mono ?_); (case side704 => refine hG.below ?_; repeat (first | (with_reducible first | exact HB.out | apply ba | apply bn | apply bd) | exact HB.out)); rintro e w' ⟨rfl, ⟨nd, rfl⟩⟩; refine ⟨_, rfl, ?_⟩))
  (try simp only [Act.put, List.setIfInBounds_toArray, List.set_cons_zero, List.set_cons_succ])
  go_cut [5, 6] (fun v5 v6 wc => ∃ (kq : Nat) (x5_2 : ByteArray) (x6_2 : Int), v5 = .string x5_2 ∧ v6 = .int .i64 x6_2 ∧ Aside0 (rule_Time.j0 kq a0 x5_2 x6_2 = some (r1, r2, r3)) ∧ Aside0 (kq ≤ k) ∧ Aside0 (Below w.heap.size w wc))
  case first =>
    have H := HC3.out
    clear HC3
    by_cases c5 : (t116.size : Int) = (a0.size : Int)
    · rw [if_pos c5] at H
      have c5b0 : ((t116.size : Int) == (a0.size : Int)) = true := beq_iff_eq.mpr c5
      have c5b1 : ((t116.size : Int) != (a0.size : Int)) = false := bne_eq_false_iff_eq.mpr c5
      have c5b2 : (t116.size == a0.size) = true := by first | simpa using c5 | (simp at c5 ⊢; omega)
      clear c5
      (first | rw [c5b0] | (simp only [i64_w, i32_w]; rw [c5b0]) | skip)
      replace H := Option.bind_eq_some_iff.mp H
      obtain ⟨t117, A60, H⟩ := H
      replace H : (rule_Time.j0 k a0 t117 1) = some (r1, r2, r3) := H
      have A6 := Aside0.mk A60
      clear A60
      have H' := Aside0.mk H
      clear H
      go_wp2_with (first | ((with_reducible refine gate_callee (f := 46) rfl ?_); refine goesL_ (some 23) rfl rfl Tryd.func46 (by kernel_rfl) rfl #[.string a0, .string (⟨#[43]⟩ : ByteArray)] rfl (by (try simp only [List.map_toArray, List.map_cons, List.map_nil]); first | done | rfl | (simp only [List.length_drop, List.length_take]; rfl)) ?_; (with_reducible refine (strings_TrimPrefix.calls a0 (⟨#[43]⟩ : ByteArray) t117 _ ?side707 A6.out).mono ?_); (case side707 => refine hG.below ?_; repeat (first | (with_reducible first | exact HB.out | apply ba | apply bn | apply bd) | exact HB.out)); rintro e w' ⟨rfl, ⟨nd, rfl⟩⟩; refine ⟨_, rfl, ?_⟩))
      go_meet
      case rel => exact ⟨_, (t117), (1), (by first | rfl | (simp; done) | (simp [*]; done) | (refine congrArg _ ?_; rw [Bool.eq_iff_iff]; simp; done)), (by first | rfl | (simp; done) | (simp [*]; done) | (refine congrArg _ ?_; rw [Bool.eq_iff_iff]; simp; done)), H', ⟨by first | omega | exact Nat.le_refl _⟩, ⟨by repeat (first | (with_reducible first | exact HB.out | apply ba | apply bn | apply bd) | exact HB.out)⟩⟩
    · rw [if_neg c5] at H
      have c5b0 : ((t116.size : Int) == (a0.size : Int)) = false := beq_eq_false_iff_ne.mpr c5
      have c5b1 : ((t116.size : Int) != (a0.size : Int)) = true := bne_iff_ne.mpr c5
      have c5b2 : (t116.size == a0.size) = false := by first | simpa using c5 | (simp at c5 ⊢; omega)
      (first | rw [c5b0] | (simp only [i64_w, i32_w]; rw [c5b0]) | skip)
      have H' := Aside0.mk H
      clear H
      go_wp2
      go_meet
      case rel => exact ⟨_, (t116), ((-1)), (by first | rfl | (simp; done) | (simp [*]; done) | (refine congrArg _ ?_; rw [Bool.eq_iff_iff]; simp; done)), (by first | rfl | (simp; done) | (simp [*]; done) | (refine congrArg _ ?_; rw [Bool.eq_iff_iff]; simp; done)), H', ⟨by first | omega | exact Nat.le_refl _⟩, ⟨by repeat (first | (with_reducible first | exact HB.out | apply ba | apply bn | apply bd) | exact HB.out)⟩⟩
  case rest =>
    clear HC3
    try clear c2
    try clear p2
    try clear c4
    try clear c5
    try clear c5b0
    try clear c5b1
    try clear c5b2
    obtain ⟨kq, x5_2, x6_2, rfl, rfl, HA, HJ2, HB⟩ := hcut
    cases kq with
    | zero => exact absurd HA.out (by simp [rule_Time.j0])
    | succ kj2 =>
      have H := HA.out
      clear HA
      simp only [rule_Time.j0] at H
      replace H := Option.bind_eq_some_iff.mp H
      obtain ⟨t118, A80, H⟩ := H
      replace H : (if (mn t118 3) = 0 then (some (0, a0, false)) else (if 0 ≤ (mn t118 3) then (if (mn t118 3) ≤ (x5_2.size : Int) then ((strconv_Atoi.f (x5_2.extract 0 ((mn t118 3) : Int).toNat)).bind fun bt119 => (if bt119.1 > 167 then (if 0 ≤ (wrap64 ((mn t118 3) - 1)) then (if (wrap64 ((mn t118 3) - 1)) ≤ (x5_2.size : Int) then ((rule_sixty.f (x5_2.extract ((wrap64 ((mn t118 3) - 1)) : Int).toNat x5_2.size)).bind fun bt121 => ((rule_more.f bt121.2.1 bt121.2.2).bind fun bt124 => (some (wrap64 (x6_2 * (wrap64 ((wrap64 ((wrap64 ((wrap64 (Int.tdiv bt119.1 10)) * 3600)) + (wrap64 (bt121.1 * 60)))) + bt124.1))), bt124.2.1, true)))) else (none)) else (none)) else ((rule_sixty.f (x5_2.extract ((mn t118 3) : Int).toNat x5_2.size)).bind fun bt127 => ((rule_more.f bt127.2.1 bt127.2.2).bind fun bt130 => (some (wrap64 (x6_2 * (wrap64 ((wrap64 ((wrap64 (bt119.1 * 3600)) + (wrap64 (bt127.1 * 60)))) + bt130.1))), bt130.2.1, true)))))) else (none)) else (none))) = some (r1, r2, r3) := H
      have A8 := Aside0.mk A80
      clear A80
      obtain ⟨ji9, hji9⟩ : ∃ j_ : Int, (mn t118 3) = j_ := ⟨_, rfl⟩
      replace H : (if (ji9) = 0 then (some (0, a0, false)) else (if 0 ≤ (ji9) then (if (ji9) ≤ (x5_2.size : Int) then ((strconv_Atoi.f (x5_2.extract 0 ((ji9) : Int).toNat)).bind fun bt119 => (if bt119.1 > 167 then (if 0 ≤ (wrap64 ((ji9) - 1)) then (if (wrap64 ((ji9) - 1)) ≤ (x5_2.size : Int) then ((rule_sixty.f (x5_2.extract ((wrap64 ((ji9) - 1)) : Int).toNat x5_2.size)).bind fun bt121 => ((rule_more.f bt121.2.1 bt121.2.2).bind fun bt124 => (some (wrap64 (x6_2 * (wrap64 ((wrap64 ((wrap64 ((wrap64 (Int.tdiv bt119.1 10)) * 3600)) + (wrap64 (bt121.1 * 60)))) + bt124.1))), bt124.2.1, true)))) else (none)) else (none)) else ((rule_sixty.f (x5_2.extract ((ji9) : Int).toNat x5_2.size)).bind fun bt127 => ((rule_more.f bt127.2.1 bt127.2.2).bind fun bt130 => (some (wrap64 (x6_2 * (wrap64 ((wrap64 ((wrap64 (bt119.1 * 3600)) + (wrap64 (bt127.1 * 60)))) + bt130.1))), bt130.2.1, true)))))) else (none)) else (none))) = some (r1, r2, r3) := by first | (rw [hji9] at H; exact H) | (simp only [hji9] at H ⊢; exact H)
      (try rw [hji9] at A8)
      (try (have hji9h : ji9 ≤ 3 := by (rw [← hji9]; unfold mn; (repeat' split) <;> omega)))
      (try (have hji9g : ji9 ≤ 64 := by omega))
      have hji9_ : (if 3 < t118 then 3 else t118) = ji9 := hji9
      by_cases c10 : (ji9) = 0
      · rw [if_pos c10] at H
        have c10b0 : ((ji9) == 0) = true := beq_iff_eq.mpr c10
        have c10b1 : ((ji9) != 0) = false := bne_eq_false_iff_eq.mpr c10
        clear c10
        simp only [Option.some.injEq, Prod.mk.injEq] at H
        obtain ⟨rfl, rfl, rfl⟩ := H
        go_wp2_with (first | ((with_reducible refine gate_callee (f := 47) rfl ?_); refine goesL_ (some 25) rfl rfl Tryd.func47 (by kernel_rfl) rfl #[.string x5_2] rfl (by (try simp only [List.map_toArray, List.map_cons, List.map_nil]); first | done | rfl | (simp only [List.length_drop, List.length_take]; rfl)) ?_; (with_reducible refine (rule_digits.calls x5_2 t118 _ ?side711 A8.out).mono ?_); (case side711 => refine hG.below ?_; repeat (first | (with_reducible first | exact HB.out | apply ba | apply bn | apply bd) | exact HB.out)); rintro e w12 ⟨rfl, hb⟩; refine ⟨_, rfl, ?_⟩; have n0_ := Aside0.mk (below_step (by repeat (first | (with_reducible first | exact HB.out | apply ba | apply bn | apply bd) | exact HB.out)) hb); clear HB; have HB := n0_; clear n0_; (try clear hb)))
        go_ret3
        exact ⟨by first | rfl | (simp [errW_none, errW_some] <;> rfl) | (simp only [← hji9]; first | rfl | (simp [errW_none, errW_some] <;> rfl)) | (simp [*, errW_none, errW_some] <;> rfl), by repeat (first | (with_reducible first | exact HB.out | apply ba | apply bn | apply bd) | exact HB.out)⟩
      · rw [if_neg c10] at H
        have c10b0 : ((ji9) == 0) = false := beq_eq_false_iff_ne.mpr c10
        have c10b1 : ((ji9) != 0) = true := bne_iff_ne.mpr c10
        by_cases c13 : 0 ≤ (ji9)
        · rw [if_pos c13] at H
          have c13b0 := eq_true c13
          have c13b1 : decide (0 ≤ (ji9)) = true := decide_eq_true c13
          clear c13
          by_cases c14 : (ji9) ≤ (x5_2.size : Int)
          · rw [if_pos c14] at H
            have c14b0 := eq_true c14
            have c14b1 : decide ((ji9) ≤ (x5_2.size : Int)) = true := decide_eq_true c14
            clear c14
            replace H := Option.bind_eq_some_iff.mp H
            obtain ⟨⟨t119, t120⟩, A150, H⟩ := H
            replace H : (if t119 > 167 then (if 0 ≤ (wrap64 ((ji9) - 1)) then (if (wrap64 ((ji9) - 1)) ≤ (x5_2.size : Int) then ((rule_sixty.f (x5_2.extract ((wrap64 ((ji9) - 1)) : Int).toNat x5_2.size)).bind fun bt121 => ((rule_more.f bt121.2.1 bt121.2.2).bind fun bt124 => (some (wrap64 (x6_2 * (wrap64 ((wrap64 ((wrap64 ((wrap64 (Int.tdiv t119 10)) * 3600)) + (wrap64 (bt121.1 * 60)))) + bt124.1))), bt124.2.1, true)))) else (none)) else (none)) else ((rule_sixty.f (x5_2.extract ((ji9) : Int).toNat x5_2.size)).bind fun bt127 => ((rule_more.f bt127.2.1 bt127.2.2).bind fun bt130 => (some (wrap64 (x6_2 * (wrap64 ((wrap64 ((wrap64 (t119 * 3600)) + (wrap64 (bt127.1 * 60)))) + bt130.1))), bt130.2.1, true))))) = some (r1, r2, r3) := H
            have A15 := Aside0.mk A150
            clear A150
            by_cases c16 : t119 > 167
            · rw [if_pos c16] at H
              have c16b0 : decide (167 < t119) = true := decide_eq_true c16
              clear c16
              obtain ⟨ji17, hji17⟩ : ∃ j_ : Int, (wrap64 ((ji9) - 1)) = j_ := ⟨_, rfl⟩
              replace H : (if 0 ≤ (ji17) then (if (ji17) ≤ (x5_2.size : Int) then ((rule_sixty.f (x5_2.extract ((ji17) : Int).toNat x5_2.size)).bind fun bt121 => ((rule_more.f bt121.2.1 bt121.2.2).bind fun bt124 => (some (wrap64 (x6_2 * (wrap64 ((wrap64 ((wrap64 ((wrap64 (Int.tdiv t119 10)) * 3600)) + (wrap64 (bt121.1 * 60)))) + bt124.1))), bt124.2.1, true)))) else (none)) else (none)) = some (r1, r2, r3) := by first | (rw [hji17] at H; exact H) | (simp only [hji17] at H ⊢; exact H)
              (try rw [hji17] at A8)
              (try rw [hji17] at A15)
              have hji17w : (IntKind.i64.wrap ((ji9) - 1)) = ji17 := (i64_w _).trans hji17
              by_cases c18 : 0 ≤ (ji17)
              · rw [if_pos c18] at H
                have c18b0 := eq_true c18
                have c18b1 : decide (0 ≤ (ji17)) = true := decide_eq_true c18
                clear c18
                by_cases c19 : (ji17) ≤ (x5_2.size : Int)
                · rw [if_pos c19] at H
                  have c19b0 := eq_true c19
                  have c19b1 : decide ((ji17) ≤ (x5_2.size : Int)) = true := decide_eq_true c19
                  clear c19
                  replace H := Option.bind_eq_some_iff.mp H
                  obtain ⟨⟨t121, t122, t123⟩, A200, H⟩ := H
                  replace H : ((rule_more.f t122 t123).bind fun bt124 => (some (wrap64 (x6_2 * (wrap64 ((wrap64 ((wrap64 ((wrap64 (Int.tdiv t119 10)) * 3600)) + (wrap64 (t121 * 60)))) + bt124.1))), bt124.2.1, true))) = some (r1, r2, r3) := H
                  have A20 := Aside0.mk A200
                  clear A200
                  replace H := Option.bind_eq_some_iff.mp H
                  obtain ⟨⟨t124, t125, t126⟩, A210, H⟩ := H
                  replace H : (some (wrap64 (x6_2 * (wrap64 ((wrap64 ((wrap64 ((wrap64 (Int.tdiv t119 10)) * 3600)) + (wrap64 (t121 * 60)))) + t124))), t125, true)) = some (r1, r2, r3) := H
                  have A21 := Aside0.mk A210
                  clear A210
                  simp only [Option.some.injEq, Prod.mk.injEq] at H
                  obtain ⟨rfl, rfl, rfl⟩ := H
                  go_wp2_with (first | ((with_reducible refine gate_callee (f := 47) rfl ?_); refine goesL_ (some 25) rfl rfl Tryd.func47 (by kernel_rfl) rfl #[.string x5_2] rfl (by (try simp only [List.map_toArray, List.map_cons, List.map_nil]); first | done | rfl | (simp only [List.length_drop, List.length_take]; rfl)) ?_; (with_reducible refine (rule_digits.calls x5_2 t118 _ ?side722 A8.out).mono ?_); (case side722 => refine hG.below ?_; repeat (first | (with_reducible first | exact HB.out | apply ba | apply bn | apply bd) | exact HB.out)); rintro e w23 ⟨rfl, hb⟩; refine ⟨_, rfl, ?_⟩; have n0_ := Aside0.mk (below_step (by repeat (first | (with_reducible first | exact HB.out | apply ba | apply bn | apply bd) | exact HB.out)) hb); clear HB; have HB := n0_; clear n0_; (try clear hb)) | ((with_reducible refine gate_callee (f := 48) rfl ?_); refine goesL_ (some 34) rfl rfl Tryd.func48 (by kernel_rfl) rfl #[.string (x5_2.extract 0 ((ji9) : Int).toNat)] rfl (by (try simp only [List.map_toArray, List.map_cons, List.map_nil]); first | done | (simp only [hji9]; rfl) | rfl | (simp only [List.length_drop, List.length_take]; rfl)) ?_; (with_reducible refine (strconv_Atoi.calls (x5_2.extract 0 ((ji9) : Int).toNat) t119 t120 _ ?side724 A15.out).mono ?_); (case side724 => refine hG.below ?_; repeat (first | (with_reducible first | exact HB.out | apply ba | apply bn | apply bd) | exact HB.out)); rintro e w25 ⟨rfl, hb⟩; refine ⟨_, rfl, ?_⟩; have n0_ := Aside0.mk (below_step (by repeat (first | (with_reducible first | exact HB.out | apply ba | apply bn | apply bd) | exact HB.out)) hb); clear HB; have HB := n0_; clear n0_; (try clear hb); (try simp only [errW_none, errW_some])) | ((with_reducible refine gate_callee (f := 49) rfl ?_); refine goesL_ (some 47) rfl rfl Tryd.func49 (by kernel_rfl) rfl #[.string (x5_2.extract ((ji17) : Int).toNat x5_2.size)] rfl (by (try simp only [List.map_toArray, List.map_cons, List.map_nil]); first | done | (simp only [hji17]; rfl) | rfl | (simp only [List.length_drop, List.length_take]; rfl)) ?_; (with_reducible refine (rule_sixty.calls (x5_2.extract ((ji17) : Int).toNat x5_2.size) t121 t122 t123 _ ?side726 A20.out).mono ?_); (case side726 => refine hG.below ?_; repeat (first | (with_reducible first | exact HB.out | apply ba | apply bn | apply bd) | exact HB.out)); rintro e w27 ⟨rfl, hb⟩; refine ⟨_, rfl, ?_⟩; have n0_ := Aside0.mk (below_step (by repeat (first | (with_reducible first | exact HB.out | apply ba | apply bn | apply bd) | exact HB.out)) hb); clear HB; have HB := n0_; clear n0_; (try clear hb)) | ((with_reducible refine gate_callee (f := 50) rfl ?_); refine goesL_ (some 54) rfl rfl Tryd.func50 (by kernel_rfl) rfl #[.string t122, .bool t123] rfl (by (try simp only [List.map_toArray, List.map_cons, List.map_nil]); first | done | rfl | (simp only [List.length_drop, List.length_take]; rfl)) ?_; (with_reducible refine (rule_more.calls t122 t123 t124 t125 t126 _ ?side728 A21.out).mono ?_); (case side728 => refine hG.below ?_; repeat (first | (with_reducible first | exact HB.out | apply ba | apply bn | apply bd) | exact HB.out)); rintro e w29 ⟨rfl, hb⟩; refine ⟨_, rfl, ?_⟩; have n0_ := Aside0.mk (below_step (by repeat (first | (with_reducible first | exact HB.out | apply ba | apply bn | apply bd) | exact HB.out)) hb); clear HB; have HB := n0_; clear n0_; (try clear hb)))
                  go_ret3
                  exact ⟨by first | rfl | (simp [errW_none, errW_some] <;> rfl) | (simp only [← hji9, ← hji17]; first | rfl | (simp [errW_none, errW_some] <;> rfl)) | (simp [*, errW_none, errW_some] <;> rfl), by repeat (first | (with_reducible first | exact HB.out | apply ba | apply bn | apply bd) | exact HB.out)⟩
                · rw [if_neg c19] at H
                  exact absurd H (by simp)
              · rw [if_neg c18] at H
                exact absurd H (by simp)
            · rw [if_neg c16] at H
              have c16b0 : decide (167 < t119) = false := decide_eq_false c16
              clear c16
              have c30b0 := eq_true (of_decide_eq_true (by first | (with_reducible assumption) | assumption) : 0 ≤ (ji9))
              have c31b0 := eq_true (of_decide_eq_true (by first | (with_reducible assumption) | assumption) : (ji9) ≤ (x5_2.size : Int))
              replace H := Option.bind_eq_some_iff.mp H
              obtain ⟨⟨t127, t128, t129⟩, A320, H⟩ := H
              replace H : ((rule_more.f t128 t129).bind fun bt130 => (some (wrap64 (x6_2 * (wrap64 ((wrap64 ((wrap64 (t119 * 3600)) + (wrap64 (t127 * 60)))) + bt130.1))), bt130.2.1, true))) = some (r1, r2, r3) := H
              have A32 := Aside0.mk A320
              clear A320
              replace H := Option.bind_eq_some_iff.mp H
              obtain ⟨⟨t130, t131, t132⟩, A330, H⟩ := H
              replace H : (some (wrap64 (x6_2 * (wrap64 ((wrap64 ((wrap64 (t119 * 3600)) + (wrap64 (t127 * 60)))) + t130))), t131, true)) = some (r1, r2, r3) := H
              have A33 := Aside0.mk A330
              clear A330
              simp only [Option.some.injEq, Prod.mk.injEq] at H
              obtain ⟨rfl, rfl, rfl⟩ := H
              go_wp2_with (first | ((with_reducible refine gate_callee (f := 47) rfl ?_); refine goesL_ (some 25) rfl rfl Tryd.func47 (by kernel_rfl) rfl #[.string x5_2] rfl (by (try simp only [List.map_toArray, List.map_cons, List.map_nil]); first | done | rfl | (simp only [List.length_drop, List.length_take]; rfl)) ?_; (with_reducible refine (rule_digits.calls x5_2 t118 _ ?side734 A8.out).mono ?_); (case side734 => refine hG.below ?_; repeat (first | (with_reducible first | exact HB.out | apply ba | apply bn | apply bd) | exact HB.out)); rintro e w35 ⟨rfl, hb⟩; refine ⟨_, rfl, ?_⟩; have n0_ := Aside0.mk (below_step (by repeat (first | (with_reducible first | exact HB.out | apply ba | apply bn | apply bd) | exact HB.out)) hb); clear HB; have HB := n0_; clear n0_; (try clear hb)) | ((with_reducible refine gate_callee (f := 48) rfl ?_); refine goesL_ (some 34) rfl rfl Tryd.func48 (by kernel_rfl) rfl #[.string (x5_2.extract 0 ((ji9) : Int).toNat)] rfl (by (try simp only [List.map_toArray, List.map_cons, List.map_nil]); first | done | (simp only [hji9]; rfl) | rfl | (simp only [List.length_drop, List.length_take]; rfl)) ?_; (with_reducible refine (strconv_Atoi.calls (x5_2.extract 0 ((ji9) : Int).toNat) t119 t120 _ ?side736 A15.out).mono ?_); (case side736 => refine hG.below ?_; repeat (first | (with_reducible first | exact HB.out | apply ba | apply bn | apply bd) | exact HB.out)); rintro e w37 ⟨rfl, hb⟩; refine ⟨_, rfl, ?_⟩; have n0_ := Aside0.mk (below_step (by repeat (first | (with_reducible first | exact HB.out | apply ba | apply bn | apply bd) | exact HB.out)) hb); clear HB; have HB := n0_; clear n0_; (try clear hb); (try simp only [errW_none, errW_some])) | ((with_reducible refine gate_callee (f := 49) rfl ?_); refine goesL_ (some 47) rfl rfl Tryd.func49 (by kernel_rfl) rfl #[.string (x5_2.extract ((ji9) : Int).toNat x5_2.size)] rfl (by (try simp only [List.map_toArray, List.map_cons, List.map_nil]); first | done | (simp only [hji9]; rfl) | rfl | (simp only [List.length_drop, List.length_take]; rfl)) ?_; (with_reducible refine (rule_sixty.calls (x5_2.extract ((ji9) : Int).toNat x5_2.size) t127 t128 t129 _ ?side738 A32.out).mono ?_); (case side738 => refine hG.below ?_; repeat (first | (with_reducible first | exact HB.out | apply ba | apply bn | apply bd) | exact HB.out)); rintro e w39 ⟨rfl, hb⟩; refine ⟨_, rfl, ?_⟩; have n0_ := Aside0.mk (below_step (by repeat (first | (with_reducible first | exact HB.out | apply ba | apply bn | apply bd) | exact HB.out)) hb); clear HB; have HB := n0_; clear n0_; (try clear hb)) | ((with_reducible refine gate_callee (f := 50) rfl ?_); refine goesL_ (some 54) rfl rfl Tryd.func50 (by kernel_rfl) rfl #[.string t128, .bool t129] rfl (by (try simp only [List.map_toArray, List.map_cons, List.map_nil]); first | done | rfl | (simp only [List.length_drop, List.length_take]; rfl)) ?_; (with_reducible refine (rule_more.calls t128 t129 t130 t131 t132 _ ?side740 A33.out).mono ?_); (case side740 => refine hG.below ?_; repeat (first | (with_reducible first | exact HB.out | apply ba | apply bn | apply bd) | exact HB.out)); rintro e w41 ⟨rfl, hb⟩; refine ⟨_, rfl, ?_⟩; have n0_ := Aside0.mk (below_step (by repeat (first | (with_reducible first | exact HB.out | apply ba | apply bn | apply bd) | exact HB.out)) hb); clear HB; have HB := n0_; clear n0_; (try clear hb)))
              go_ret3
              exact ⟨by first | rfl | (simp [errW_none, errW_some] <;> rfl) | (simp only [← hji9]; first | rfl | (simp [errW_none, errW_some] <;> rfl)) | (simp [*, errW_none, errW_some] <;> rfl), by repeat (first | (with_reducible first | exact HB.out | apply ba | apply bn | apply bd) | exact HB.out)⟩
          · rw [if_neg c14] at H
            exact absurd H (by simp)
        · rw [if_neg c13] at H
          exact absurd H (by simp)

end Go.Proofs.YtghjemcbkackjaaDoor.P
