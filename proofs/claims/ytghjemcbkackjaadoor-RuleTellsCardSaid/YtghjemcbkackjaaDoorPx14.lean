-- written by this project's program mkprint.py out of the translation; Lean checks it
import Derived.Test.YtghjemcbkackjaaDoorPx0
namespace Go.Proofs.YtghjemcbkackjaaDoor.P
open Go.Proofs.YtghjemcbkackjaaDoor.F
open Go.RowKit Go.Proofs.YtghjemcbkackjaaDoorW.PrintWords Go.Proofs.YtghjemcbkackjaaDoorW.PrintLast Go.Proofs.YtghjemcbkackjaaDoorW.PrintMore
attribute [local go_sem] max2_int min2_int max_two min_two max_three min_three max_four min_four   -- for this text's walks alone
set_option linter.unusedVariables false
set_option linter.unusedSimpArgs false

/-! ### epactref17_Right: function 35 -/
def epactref17_Right.j0 : Nat → Bool → Int → Int → Int → Int → Int → Option (Bool)
  | 0, _, _, _, _, _, _ => none
  | k + 1, x10, x287000, x287001, x287002, x287003, x287004 => if x10 = true then (some false) else (if x287000 = 0 then (if x287001 ≥ 1 then (if x287001 ≤ 12 then (if x287002 ≥ 1 then (if x287002 ≤ 5 then (if x287003 ≥ 0 then (some (decide (x287003 ≤ 6))) else (some false)) else (some false)) else (some false)) else (some false)) else (some false)) else (if x287000 = 1 then (if x287001 ≥ 1 then (if x287001 ≤ 365 then (if x287002 = 0 then (some (x287003 == 0)) else (some false)) else (some false)) else (some false)) else (if x287000 = 2 then (if x287001 ≥ 0 then (if x287001 ≤ 365 then (if x287002 = 0 then (some (x287003 == 0)) else (some false)) else (some false)) else (some false)) else (some false))))
def epactref17_Right.f (k : Nat) (a0_0 : Int) (a0_1 : Int) (a0_2 : Int) (a0_3 : Int) (a0_4 : Int) : Option (Bool) := if a0_4 < (-604799) then (epactref17_Right.j0 k true a0_0 a0_1 a0_2 a0_3 a0_4) else (epactref17_Right.j0 k (decide (a0_4 > 604799)) a0_0 a0_1 a0_2 a0_3 a0_4)
theorem epactref17_Right.mono_l : ∀ k, (∀ y0 y1 y2 y3 y4 y5, LeO (epactref17_Right.j0 k y0 y1 y2 y3 y4 y5) (epactref17_Right.j0 (k + 1) y0 y1 y2 y3 y4 y5))
  | 0 => fun _ _ _ _ _ _ r h => by simp [epactref17_Right.j0] at h
  | k + 1 => by
    have ih0 := epactref17_Right.mono_l k
    · intro y0 y1 y2 y3 y4 y5
      unfold epactref17_Right.j0
      repeat' first
      | (with_reducible exact ih0 _ _ _ _ _ _)
      | (with_reducible exact LeO.refl _)
      | (with_reducible exact LeO.none _)
      | (with_reducible refine LeO.ite ?_ ?_)
      | (with_reducible refine LeO.bind ?_ (fun _ => ?_))
      | exact ih0 _ _ _ _ _ _
      | exact LeO.none _
      | refine LeO.ite ?_ ?_
      | refine LeO.bind ?_ (fun _ => ?_)
theorem epactref17_Right.mono : ∀ a0 a1 a2 a3 a4 k, LeO (epactref17_Right.f k a0 a1 a2 a3 a4) (epactref17_Right.f (k + 1) a0 a1 a2 a3 a4) := by
  intro a0 a1 a2 a3 a4 k
  have ih0 := epactref17_Right.mono_l k
  unfold epactref17_Right.f
  repeat' first
      | (with_reducible exact ih0 _ _ _ _ _ _)
      | (with_reducible exact LeO.refl _)
      | (with_reducible exact LeO.none _)
      | (with_reducible refine LeO.ite ?_ ?_)
      | (with_reducible refine LeO.bind ?_ (fun _ => ?_))
      | exact ih0 _ _ _ _ _ _
      | exact LeO.none _
      | refine LeO.ite ?_ ?_
      | refine LeO.bind ?_ (fun _ => ?_)
set_option maxHeartbeats 8000000 in
set_option maxRecDepth 100000 in
theorem epactref17_Right.calls (k : Nat) (a0_0 : Int) (a0_1 : Int) (a0_2 : Int) (a0_3 : Int) (a0_4 : Int) (r : Bool) (w : World) (hG : GW w) (h : epactref17_Right.f k a0_0 a0_1 a0_2 a0_3 a0_4 = some r) :
    Calls Tryd.prog 35 #[.agg #[.int .i64 a0_0, .int .i64 a0_1, .int .i64 a0_2, .int .i64 a0_3, .int .i64 a0_4]] w fun e w' => e = .returned (.bool r) ∧ Below w.heap.size w w' := by
  have hu42 := Tryd.underlying42
  have HB := Aside0.mk (Below.refl w.heap.size w)
  have H : (if a0_4 < (-604799) then (epactref17_Right.j0 k true a0_0 a0_1 a0_2 a0_3 a0_4) else (epactref17_Right.j0 k (decide (a0_4 > 604799)) a0_0 a0_1 a0_2 a0_3 a0_4)) = some r := h
  clear h
  have HC2 := Aside0.mk H
  clear H
  go_enter Tryd.func35, Tryd.ntmps35
  go_upto_region 1 with (first | ((with_reducible refine gate_dst (N := 1) rfl ?_); refine box_event ?hg (N := 1) ?hd (cs := #[.int .i64 a0_0, .int .i64 a0_1, .int .i64 a0_2, .int .i64 a0_3, .int .i64 a0_4]) (t := 42) ?hr ?_; (case hd => rfl); (case hg => rfl); (case hr => first | (go_simp; done) | (go_simp; rfl)); intro gb286 hg w3 hbox hb; have n0_ := Aside0.mk (below_step (by repeat (first | (with_reducible first | exact HB.out | apply ba | apply bn | apply bd) | exact HB.out)) hb); have n1_ := Aside0.mk (hbox); have n2_ := Aside0.mk ((by rw [hg]; exact (below_size (by repeat (first | (with_reducible first | exact HB.out | apply ba | apply bn | apply bd) | exact HB.out))) : w.heap.size ≤ gb286)); have n3_ := Aside0.mk ((by rw [hg]; exact (below_size (by repeat (first | (with_reducible first | exact HB.out | apply ba | apply bn | apply bd) | exact HB.out))) : w.heap.size ≤ gb286)); clear HB; have HB := n0_; have BK286 := n1_; have GW286 := n2_; have GE286 := n3_; clear n0_ n1_ n2_ n3_; clear hb hbox hg))
  (try simp only [Act.put, List.setIfInBounds_toArray, List.set_cons_zero, List.set_cons_succ])
  go_cut [10] (fun v10 wc => ∃ (kq : Nat) (x10_1 : Bool), v10 = .bool x10_1 ∧ Aside0 (epactref17_Right.j0 kq x10_1 a0_0 a0_1 a0_2 a0_3 a0_4 = some r) ∧ Aside0 (kq ≤ k) ∧ Aside0 (wc.heap[gb286]? = some (.cells #[.int .i64 a0_0, .int .i64 a0_1, .int .i64 a0_2, .int .i64 a0_3, .int .i64 a0_4] 42 (0, 0))) ∧ Aside0 (Below w.heap.size w wc))
  case first =>
    have H := HC2.out
    clear HC2
    by_cases c4 : a0_4 < (-604799)
    · rw [if_pos c4] at H
      have c4b0 : decide (a0_4 < (-604799)) = true := decide_eq_true c4
      clear c4
      (first | rw [c4b0] | (simp only [i64_w, i32_w]; rw [c4b0]) | skip)
      have H' := Aside0.mk H
      clear H
      have hcz5_0 : w3.cell? ⟨gb286, 0, none⟩ = some (.int .i64 a0_0) := (blk_cell BK286.out 0).trans rfl
      have hcz5_1 : w3.cell? ⟨gb286, 1, none⟩ = some (.int .i64 a0_1) := (blk_cell BK286.out 1).trans rfl
      have hcz5_2 : w3.cell? ⟨gb286, 2, none⟩ = some (.int .i64 a0_2) := (blk_cell BK286.out 2).trans rfl
      have hcz5_3 : w3.cell? ⟨gb286, 3, none⟩ = some (.int .i64 a0_3) := (blk_cell BK286.out 3).trans rfl
      have hcz5_4 : w3.cell? ⟨gb286, 4, none⟩ = some (.int .i64 a0_4) := (blk_cell BK286.out 4).trans rfl
      have hfz5_0 := blk_frozen BK286.out 0
      have hfz5_1 := blk_frozen BK286.out 1
      have hfz5_2 := blk_frozen BK286.out 2
      have hfz5_3 := blk_frozen BK286.out 3
      have hfz5_4 := blk_frozen BK286.out 4
      go_wp2
      go_meet
      case rel => exact ⟨_, (true), (by first | rfl | (simp; done) | (simp [*]; done) | (refine congrArg _ ?_; rw [Bool.eq_iff_iff]; simp; done)), H', ⟨by first | omega | exact Nat.le_refl _⟩, ⟨by (with_reducible repeat (first | refine blk_drewN ?_ _ | refine blk_drew ?_ | refine blk_alloc ?_ _)); exact BK286.out⟩, ⟨by repeat (first | (with_reducible first | exact HB.out | apply below_alloc | apply pw_below_drewN | apply below_drew1 | refine below_set ?_ GE286.out) | exact HB.out)⟩⟩
    · rw [if_neg c4] at H
      have c4b0 : decide (a0_4 < (-604799)) = false := decide_eq_false c4
      clear c4
      (first | rw [c4b0] | (simp only [i64_w, i32_w]; rw [c4b0]) | skip)
      have H' := Aside0.mk H
      clear H
      have hcz6_0 : w3.cell? ⟨gb286, 0, none⟩ = some (.int .i64 a0_0) := (blk_cell BK286.out 0).trans rfl
      have hcz6_1 : w3.cell? ⟨gb286, 1, none⟩ = some (.int .i64 a0_1) := (blk_cell BK286.out 1).trans rfl
      have hcz6_2 : w3.cell? ⟨gb286, 2, none⟩ = some (.int .i64 a0_2) := (blk_cell BK286.out 2).trans rfl
      have hcz6_3 : w3.cell? ⟨gb286, 3, none⟩ = some (.int .i64 a0_3) := (blk_cell BK286.out 3).trans rfl
      have hcz6_4 : w3.cell? ⟨gb286, 4, none⟩ = some (.int .i64 a0_4) := (blk_cell BK286.out 4).trans rfl
      have hfz6_0 := blk_frozen BK286.out 0
      have hfz6_1 := blk_frozen BK286.out 1
      have hfz6_2 := blk_frozen BK286.out 2
      have hfz6_3 := blk_frozen BK286.out 3
      have hfz6_4 := blk_frozen BK286.out 4
      go_wp2
      go_meet
      case rel => exact ⟨_, (decide (a0_4 > 604799)), (by first | rfl | (simp; done) | (simp [*]; done) | (refine congrArg _ ?_; rw [Bool.eq_iff_iff]; simp; done)), H', ⟨by first | omega | exact Nat.le_refl _⟩, ⟨by (with_reducible repeat (first | refine blk_drewN ?_ _ | refine blk_drew ?_ | refine blk_alloc ?_ _)); exact BK286.out⟩, ⟨by repeat (first | (with_reducible first | exact HB.out | apply below_alloc | apply pw_below_drewN | apply below_drew1 | refine below_set ?_ GE286.out) | exact HB.out)⟩⟩
  case rest =>
    clear HC2
    try clear p2
    try clear c3
    try clear c4
    try clear c4b0
    try clear hcz5_0
    try clear hcz5_1
    try clear hcz5_2
    try clear hcz5_3
    try clear hcz5_4
    try clear hcz6_0
    try clear hcz6_1
    try clear hcz6_2
    try clear hcz6_3
    try clear hcz6_4
    try clear hfz5_0
    try clear hfz5_1
    try clear hfz5_2
    try clear hfz5_3
    try clear hfz5_4
    try clear hfz6_0
    try clear hfz6_1
    try clear hfz6_2
    try clear hfz6_3
    try clear hfz6_4
    obtain ⟨kq, x10_1, rfl, HA, HJ1, BK286, HB⟩ := hcut
    cases kq with
    | zero => exact absurd HA.out (by simp [epactref17_Right.j0])
    | succ kj1 =>
      have H := HA.out
      clear HA
      simp only [epactref17_Right.j0] at H
      by_cases c7 : x10_1 = true
      · subst c7
        have H1 : (some false) = some r := by rw [if_pos rfl] at H; exact H
        clear H
        have H := H1
        clear H1
        obtain rfl := Option.some.inj H
        go_wp2
        go_ret
        exact ⟨by first | rfl | (simp [errW_none, errW_some] <;> rfl) | (simp [*, errW_none, errW_some] <;> rfl), by repeat (first | (with_reducible first | exact HB.out | apply below_alloc | apply pw_below_drewN | apply below_drew1 | refine below_set ?_ GE286.out) | exact HB.out)⟩
      · replace c7 := Bool.eq_false_iff.mpr c7
        subst c7
        have H1 : (if a0_0 = 0 then (if a0_1 ≥ 1 then (if a0_1 ≤ 12 then (if a0_2 ≥ 1 then (if a0_2 ≤ 5 then (if a0_3 ≥ 0 then (some (decide (a0_3 ≤ 6))) else (some false)) else (some false)) else (some false)) else (some false)) else (some false)) else (if a0_0 = 1 then (if a0_1 ≥ 1 then (if a0_1 ≤ 365 then (if a0_2 = 0 then (some (a0_3 == 0)) else (some false)) else (some false)) else (some false)) else (if a0_0 = 2 then (if a0_1 ≥ 0 then (if a0_1 ≤ 365 then (if a0_2 = 0 then (some (a0_3 == 0)) else (some false)) else (some false)) else (some false)) else (some false)))) = some r := by rw [if_neg (show ¬ (false = true) by decide)] at H; exact H
        clear H
        have H := H1
        clear H1
        by_cases c8 : a0_0 = 0
        · rw [if_pos c8] at H
          have c8b0 : (a0_0 == 0) = true := beq_iff_eq.mpr c8
          have c8b1 : (a0_0 != 0) = false := bne_eq_false_iff_eq.mpr c8
          clear c8
          by_cases c9 : a0_1 ≥ 1
          · rw [if_pos c9] at H
            have c9b0 : decide (1 ≤ a0_1) = true := decide_eq_true c9
            clear c9
            by_cases c10 : a0_1 ≤ 12
            · rw [if_pos c10] at H
              have c10b0 : decide (a0_1 ≤ 12) = true := decide_eq_true c10
              clear c10
              by_cases c11 : a0_2 ≥ 1
              · rw [if_pos c11] at H
                have c11b0 : decide (1 ≤ a0_2) = true := decide_eq_true c11
                clear c11
                by_cases c12 : a0_2 ≤ 5
                · rw [if_pos c12] at H
                  have c12b0 : decide (a0_2 ≤ 5) = true := decide_eq_true c12
                  clear c12
                  by_cases c13 : a0_3 ≥ 0
                  · rw [if_pos c13] at H
                    have c13b0 : decide (0 ≤ a0_3) = true := decide_eq_true c13
                    clear c13
                    obtain rfl := Option.some.inj H
                    have hcz14_0 : wc.cell? ⟨gb286, 0, none⟩ = some (.int .i64 a0_0) := (blk_cell BK286.out 0).trans rfl
                    have hcz14_1 : wc.cell? ⟨gb286, 1, none⟩ = some (.int .i64 a0_1) := (blk_cell BK286.out 1).trans rfl
                    have hcz14_2 : wc.cell? ⟨gb286, 2, none⟩ = some (.int .i64 a0_2) := (blk_cell BK286.out 2).trans rfl
                    have hcz14_3 : wc.cell? ⟨gb286, 3, none⟩ = some (.int .i64 a0_3) := (blk_cell BK286.out 3).trans rfl
                    have hcz14_4 : wc.cell? ⟨gb286, 4, none⟩ = some (.int .i64 a0_4) := (blk_cell BK286.out 4).trans rfl
                    have hfz14_0 := blk_frozen BK286.out 0
                    have hfz14_1 := blk_frozen BK286.out 1
                    have hfz14_2 := blk_frozen BK286.out 2
                    have hfz14_3 := blk_frozen BK286.out 3
                    have hfz14_4 := blk_frozen BK286.out 4
                    go_wp2
                    go_ret
                    exact ⟨by first | rfl | (simp [errW_none, errW_some] <;> rfl) | (simp [*, errW_none, errW_some] <;> rfl), by repeat (first | (with_reducible first | exact HB.out | apply below_alloc | apply pw_below_drewN | apply below_drew1 | refine below_set ?_ GE286.out) | exact HB.out)⟩
                  · rw [if_neg c13] at H
                    have c13b0 : decide (0 ≤ a0_3) = false := decide_eq_false c13
                    clear c13
                    obtain rfl := Option.some.inj H
                    have hcz15_0 : wc.cell? ⟨gb286, 0, none⟩ = some (.int .i64 a0_0) := (blk_cell BK286.out 0).trans rfl
                    have hcz15_1 : wc.cell? ⟨gb286, 1, none⟩ = some (.int .i64 a0_1) := (blk_cell BK286.out 1).trans rfl
                    have hcz15_2 : wc.cell? ⟨gb286, 2, none⟩ = some (.int .i64 a0_2) := (blk_cell BK286.out 2).trans rfl
                    have hcz15_3 : wc.cell? ⟨gb286, 3, none⟩ = some (.int .i64 a0_3) := (blk_cell BK286.out 3).trans rfl
                    have hcz15_4 : wc.cell? ⟨gb286, 4, none⟩ = some (.int .i64 a0_4) := (blk_cell BK286.out 4).trans rfl
                    have hfz15_0 := blk_frozen BK286.out 0
                    have hfz15_1 := blk_frozen BK286.out 1
                    have hfz15_2 := blk_frozen BK286.out 2
                    have hfz15_3 := blk_frozen BK286.out 3
                    have hfz15_4 := blk_frozen BK286.out 4
                    go_wp2
                    go_ret
                    exact ⟨by first | rfl | (simp [errW_none, errW_some] <;> rfl) | (simp [*, errW_none, errW_some] <;> rfl), by repeat (first | (with_reducible first | exact HB.out | apply below_alloc | apply pw_below_drewN | apply below_drew1 | refine below_set ?_ GE286.out) | exact HB.out)⟩
                · rw [if_neg c12] at H
                  have c12b0 : decide (a0_2 ≤ 5) = false := decide_eq_false c12
                  clear c12
                  obtain rfl := Option.some.inj H
                  have hcz16_0 : wc.cell? ⟨gb286, 0, none⟩ = some (.int .i64 a0_0) := (blk_cell BK286.out 0).trans rfl
                  have hcz16_1 : wc.cell? ⟨gb286, 1, none⟩ = some (.int .i64 a0_1) := (blk_cell BK286.out 1).trans rfl
                  have hcz16_2 : wc.cell? ⟨gb286, 2, none⟩ = some (.int .i64 a0_2) := (blk_cell BK286.out 2).trans rfl
                  have hcz16_3 : wc.cell? ⟨gb286, 3, none⟩ = some (.int .i64 a0_3) := (blk_cell BK286.out 3).trans rfl
                  have hcz16_4 : wc.cell? ⟨gb286, 4, none⟩ = some (.int .i64 a0_4) := (blk_cell BK286.out 4).trans rfl
                  have hfz16_0 := blk_frozen BK286.out 0
                  have hfz16_1 := blk_frozen BK286.out 1
                  have hfz16_2 := blk_frozen BK286.out 2
                  have hfz16_3 := blk_frozen BK286.out 3
                  have hfz16_4 := blk_frozen BK286.out 4
                  go_wp2
                  go_ret
                  exact ⟨by first | rfl | (simp [errW_none, errW_some] <;> rfl) | (simp [*, errW_none, errW_some] <;> rfl), by repeat (first | (with_reducible first | exact HB.out | apply below_alloc | apply pw_below_drewN | apply below_drew1 | refine below_set ?_ GE286.out) | exact HB.out)⟩
              · rw [if_neg c11] at H
                have c11b0 : decide (1 ≤ a0_2) = false := decide_eq_false c11
                clear c11
                obtain rfl := Option.some.inj H
                have hcz17_0 : wc.cell? ⟨gb286, 0, none⟩ = some (.int .i64 a0_0) := (blk_cell BK286.out 0).trans rfl
                have hcz17_1 : wc.cell? ⟨gb286, 1, none⟩ = some (.int .i64 a0_1) := (blk_cell BK286.out 1).trans rfl
                have hcz17_2 : wc.cell? ⟨gb286, 2, none⟩ = some (.int .i64 a0_2) := (blk_cell BK286.out 2).trans rfl
                have hcz17_3 : wc.cell? ⟨gb286, 3, none⟩ = some (.int .i64 a0_3) := (blk_cell BK286.out 3).trans rfl
                have hcz17_4 : wc.cell? ⟨gb286, 4, none⟩ = some (.int .i64 a0_4) := (blk_cell BK286.out 4).trans rfl
                have hfz17_0 := blk_frozen BK286.out 0
                have hfz17_1 := blk_frozen BK286.out 1
                have hfz17_2 := blk_frozen BK286.out 2
                have hfz17_3 := blk_frozen BK286.out 3
                have hfz17_4 := blk_frozen BK286.out 4
                go_wp2
                go_ret
                exact ⟨by first | rfl | (simp [errW_none, errW_some] <;> rfl) | (simp [*, errW_none, errW_some] <;> rfl), by repeat (first | (with_reducible first | exact HB.out | apply below_alloc | apply pw_below_drewN | apply below_drew1 | refine below_set ?_ GE286.out) | exact HB.out)⟩
            · rw [if_neg c10] at H
              have c10b0 : decide (a0_1 ≤ 12) = false := decide_eq_false c10
              clear c10
              obtain rfl := Option.some.inj H
              have hcz18_0 : wc.cell? ⟨gb286, 0, none⟩ = some (.int .i64 a0_0) := (blk_cell BK286.out 0).trans rfl
              have hcz18_1 : wc.cell? ⟨gb286, 1, none⟩ = some (.int .i64 a0_1) := (blk_cell BK286.out 1).trans rfl
              have hcz18_2 : wc.cell? ⟨gb286, 2, none⟩ = some (.int .i64 a0_2) := (blk_cell BK286.out 2).trans rfl
              have hcz18_3 : wc.cell? ⟨gb286, 3, none⟩ = some (.int .i64 a0_3) := (blk_cell BK286.out 3).trans rfl
              have hcz18_4 : wc.cell? ⟨gb286, 4, none⟩ = some (.int .i64 a0_4) := (blk_cell BK286.out 4).trans rfl
              have hfz18_0 := blk_frozen BK286.out 0
              have hfz18_1 := blk_frozen BK286.out 1
              have hfz18_2 := blk_frozen BK286.out 2
              have hfz18_3 := blk_frozen BK286.out 3
              have hfz18_4 := blk_frozen BK286.out 4
              go_wp2
              go_ret
              exact ⟨by first | rfl | (simp [errW_none, errW_some] <;> rfl) | (simp [*, errW_none, errW_some] <;> rfl), by repeat (first | (with_reducible first | exact HB.out | apply below_alloc | apply pw_below_drewN | apply below_drew1 | refine below_set ?_ GE286.out) | exact HB.out)⟩
          · rw [if_neg c9] at H
            have c9b0 : decide (1 ≤ a0_1) = false := decide_eq_false c9
            clear c9
            obtain rfl := Option.some.inj H
            have hcz19_0 : wc.cell? ⟨gb286, 0, none⟩ = some (.int .i64 a0_0) := (blk_cell BK286.out 0).trans rfl
            have hcz19_1 : wc.cell? ⟨gb286, 1, none⟩ = some (.int .i64 a0_1) := (blk_cell BK286.out 1).trans rfl
            have hcz19_2 : wc.cell? ⟨gb286, 2, none⟩ = some (.int .i64 a0_2) := (blk_cell BK286.out 2).trans rfl
            have hcz19_3 : wc.cell? ⟨gb286, 3, none⟩ = some (.int .i64 a0_3) := (blk_cell BK286.out 3).trans rfl
            have hcz19_4 : wc.cell? ⟨gb286, 4, none⟩ = some (.int .i64 a0_4) := (blk_cell BK286.out 4).trans rfl
            have hfz19_0 := blk_frozen BK286.out 0
            have hfz19_1 := blk_frozen BK286.out 1
            have hfz19_2 := blk_frozen BK286.out 2
            have hfz19_3 := blk_frozen BK286.out 3
            have hfz19_4 := blk_frozen BK286.out 4
            go_wp2
            go_ret
            exact ⟨by first | rfl | (simp [errW_none, errW_some] <;> rfl) | (simp [*, errW_none, errW_some] <;> rfl), by repeat (first | (with_reducible first | exact HB.out | apply below_alloc | apply pw_below_drewN | apply below_drew1 | refine below_set ?_ GE286.out) | exact HB.out)⟩
        · rw [if_neg c8] at H
          have c8b0 : (a0_0 == 0) = false := beq_eq_false_iff_ne.mpr c8
          have c8b1 : (a0_0 != 0) = true := bne_iff_ne.mpr c8
          by_cases c20 : a0_0 = 1
          · rw [if_pos c20] at H
            have c20b0 : (a0_0 == 1) = true := beq_iff_eq.mpr c20
            have c20b1 : (a0_0 != 1) = false := bne_eq_false_iff_eq.mpr c20
            clear c20
            by_cases c21 : a0_1 ≥ 1
            · rw [if_pos c21] at H
              have c21b0 : decide (1 ≤ a0_1) = true := decide_eq_true c21
              clear c21
              by_cases c22 : a0_1 ≤ 365
              · rw [if_pos c22] at H
                have c22b0 : decide (a0_1 ≤ 365) = true := decide_eq_true c22
                clear c22
                by_cases c23 : a0_2 = 0
                · rw [if_pos c23] at H
                  have c23b0 : (a0_2 == 0) = true := beq_iff_eq.mpr c23
                  have c23b1 : (a0_2 != 0) = false := bne_eq_false_iff_eq.mpr c23
                  clear c23
                  obtain rfl := Option.some.inj H
                  have hcz24_0 : wc.cell? ⟨gb286, 0, none⟩ = some (.int .i64 a0_0) := (blk_cell BK286.out 0).trans rfl
                  have hcz24_1 : wc.cell? ⟨gb286, 1, none⟩ = some (.int .i64 a0_1) := (blk_cell BK286.out 1).trans rfl
                  have hcz24_2 : wc.cell? ⟨gb286, 2, none⟩ = some (.int .i64 a0_2) := (blk_cell BK286.out 2).trans rfl
                  have hcz24_3 : wc.cell? ⟨gb286, 3, none⟩ = some (.int .i64 a0_3) := (blk_cell BK286.out 3).trans rfl
                  have hcz24_4 : wc.cell? ⟨gb286, 4, none⟩ = some (.int .i64 a0_4) := (blk_cell BK286.out 4).trans rfl
                  have hfz24_0 := blk_frozen BK286.out 0
                  have hfz24_1 := blk_frozen BK286.out 1
                  have hfz24_2 := blk_frozen BK286.out 2
                  have hfz24_3 := blk_frozen BK286.out 3
                  have hfz24_4 := blk_frozen BK286.out 4
                  go_wp2
                  go_ret
                  exact ⟨by first | rfl | (simp [errW_none, errW_some] <;> rfl) | (simp [*, errW_none, errW_some] <;> rfl), by repeat (first | (with_reducible first | exact HB.out | apply below_alloc | apply pw_below_drewN | apply below_drew1 | refine below_set ?_ GE286.out) | exact HB.out)⟩
                · rw [if_neg c23] at H
                  have c23b0 : (a0_2 == 0) = false := beq_eq_false_iff_ne.mpr c23
                  have c23b1 : (a0_2 != 0) = true := bne_iff_ne.mpr c23
                  obtain rfl := Option.some.inj H
                  have hcz25_0 : wc.cell? ⟨gb286, 0, none⟩ = some (.int .i64 a0_0) := (blk_cell BK286.out 0).trans rfl
                  have hcz25_1 : wc.cell? ⟨gb286, 1, none⟩ = some (.int .i64 a0_1) := (blk_cell BK286.out 1).trans rfl
                  have hcz25_2 : wc.cell? ⟨gb286, 2, none⟩ = some (.int .i64 a0_2) := (blk_cell BK286.out 2).trans rfl
                  have hcz25_3 : wc.cell? ⟨gb286, 3, none⟩ = some (.int .i64 a0_3) := (blk_cell BK286.out 3).trans rfl
                  have hcz25_4 : wc.cell? ⟨gb286, 4, none⟩ = some (.int .i64 a0_4) := (blk_cell BK286.out 4).trans rfl
                  have hfz25_0 := blk_frozen BK286.out 0
                  have hfz25_1 := blk_frozen BK286.out 1
                  have hfz25_2 := blk_frozen BK286.out 2
                  have hfz25_3 := blk_frozen BK286.out 3
                  have hfz25_4 := blk_frozen BK286.out 4
                  go_wp2
                  go_ret
                  exact ⟨by first | rfl | (simp [errW_none, errW_some] <;> rfl) | (simp [*, errW_none, errW_some] <;> rfl), by repeat (first | (with_reducible first | exact HB.out | apply below_alloc | apply pw_below_drewN | apply below_drew1 | refine below_set ?_ GE286.out) | exact HB.out)⟩
              · rw [if_neg c22] at H
                have c22b0 : decide (a0_1 ≤ 365) = false := decide_eq_false c22
                clear c22
                obtain rfl := Option.some.inj H
                have hcz26_0 : wc.cell? ⟨gb286, 0, none⟩ = some (.int .i64 a0_0) := (blk_cell BK286.out 0).trans rfl
                have hcz26_1 : wc.cell? ⟨gb286, 1, none⟩ = some (.int .i64 a0_1) := (blk_cell BK286.out 1).trans rfl
                have hcz26_2 : wc.cell? ⟨gb286, 2, none⟩ = some (.int .i64 a0_2) := (blk_cell BK286.out 2).trans rfl
                have hcz26_3 : wc.cell? ⟨gb286, 3, none⟩ = some (.int .i64 a0_3) := (blk_cell BK286.out 3).trans rfl
                have hcz26_4 : wc.cell? ⟨gb286, 4, none⟩ = some (.int .i64 a0_4) := (blk_cell BK286.out 4).trans rfl
                have hfz26_0 := blk_frozen BK286.out 0
                have hfz26_1 := blk_frozen BK286.out 1
                have hfz26_2 := blk_frozen BK286.out 2
                have hfz26_3 := blk_frozen BK286.out 3
                have hfz26_4 := blk_frozen BK286.out 4
                go_wp2
                go_ret
                exact ⟨by first | rfl | (simp [errW_none, errW_some] <;> rfl) | (simp [*, errW_none, errW_some] <;> rfl), by repeat (first | (with_reducible first | exact HB.out | apply below_alloc | apply pw_below_drewN | apply below_drew1 | refine below_set ?_ GE286.out) | exact HB.out)⟩
            · rw [if_neg c21] at H
              have c21b0 : decide (1 ≤ a0_1) = false := decide_eq_false c21
              clear c21
              obtain rfl := Option.some.inj H
              have hcz27_0 : wc.cell? ⟨gb286, 0, none⟩ = some (.int .i64 a0_0) := (blk_cell BK286.out 0).trans rfl
              have hcz27_1 : wc.cell? ⟨gb286, 1, none⟩ = some (.int .i64 a0_1) := (blk_cell BK286.out 1).trans rfl
              have hcz27_2 : wc.cell? ⟨gb286, 2, none⟩ = some (.int .i64 a0_2) := (blk_cell BK286.out 2).trans rfl
              have hcz27_3 : wc.cell? ⟨gb286, 3, none⟩ = some (.int .i64 a0_3) := (blk_cell BK286.out 3).trans rfl
              have hcz27_4 : wc.cell? ⟨gb286, 4, none⟩ = some (.int .i64 a0_4) := (blk_cell BK286.out 4).trans rfl
              have hfz27_0 := blk_frozen BK286.out 0
              have hfz27_1 := blk_frozen BK286.out 1
              have hfz27_2 := blk_frozen BK286.out 2
              have hfz27_3 := blk_frozen BK286.out 3
              have hfz27_4 := blk_frozen BK286.out 4
              go_wp2
              go_ret
              exact ⟨by first | rfl | (simp [errW_none, errW_some] <;> rfl) | (simp [*, errW_none, errW_some] <;> rfl), by repeat (first | (with_reducible first | exact HB.out | apply below_alloc | apply pw_below_drewN | apply below_drew1 | refine below_set ?_ GE286.out) | exact HB.out)⟩
          · rw [if_neg c20] at H
            have c20b0 : (a0_0 == 1) = false := beq_eq_false_iff_ne.mpr c20
            have c20b1 : (a0_0 != 1) = true := bne_iff_ne.mpr c20
            by_cases c28 : a0_0 = 2
            · rw [if_pos c28] at H
              have c28b0 : (a0_0 == 2) = true := beq_iff_eq.mpr c28
              have c28b1 : (a0_0 != 2) = false := bne_eq_false_iff_eq.mpr c28
              clear c28
              by_cases c29 : a0_1 ≥ 0
              · rw [if_pos c29] at H
                have c29b0 : decide (0 ≤ a0_1) = true := decide_eq_true c29
                clear c29
                by_cases c30 : a0_1 ≤ 365
                · rw [if_pos c30] at H
                  have c30b0 : decide (a0_1 ≤ 365) = true := decide_eq_true c30
                  clear c30
                  by_cases c31 : a0_2 = 0
                  · rw [if_pos c31] at H
                    have c31b0 : (a0_2 == 0) = true := beq_iff_eq.mpr c31
                    have c31b1 : (a0_2 != 0) = false := bne_eq_false_iff_eq.mpr c31
                    clear c31
                    obtain rfl := Option.some.inj H
                    have hcz32_0 : wc.cell? ⟨gb286, 0, none⟩ = some (.int .i64 a0_0) := (blk_cell BK286.out 0).trans rfl
                    have hcz32_1 : wc.cell? ⟨gb286, 1, none⟩ = some (.int .i64 a0_1) := (blk_cell BK286.out 1).trans rfl
                    have hcz32_2 : wc.cell? ⟨gb286, 2, none⟩ = some (.int .i64 a0_2) := (blk_cell BK286.out 2).trans rfl
                    have hcz32_3 : wc.cell? ⟨gb286, 3, none⟩ = some (.int .i64 a0_3) := (blk_cell BK286.out 3).trans rfl
                    have hcz32_4 : wc.cell? ⟨gb286, 4, none⟩ = some (.int .i64 a0_4) := (blk_cell BK286.out 4).trans rfl
                    have hfz32_0 := blk_frozen BK286.out 0
                    have hfz32_1 := blk_frozen BK286.out 1
                    have hfz32_2 := blk_frozen BK286.out 2
                    have hfz32_3 := blk_frozen BK286.out 3
                    have hfz32_4 := blk_frozen BK286.out 4
                    go_wp2
                    go_ret
                    exact ⟨by first | rfl | (simp [errW_none, errW_some] <;> rfl) | (simp [*, errW_none, errW_some] <;> rfl), by repeat (first | (with_reducible first | exact HB.out | apply below_alloc | apply pw_below_drewN | apply below_drew1 | refine below_set ?_ GE286.out) | exact HB.out)⟩
                  · rw [if_neg c31] at H
                    have c31b0 : (a0_2 == 0) = false := beq_eq_false_iff_ne.mpr c31
                    have c31b1 : (a0_2 != 0) = true := bne_iff_ne.mpr c31
                    obtain rfl := Option.some.inj H
                    have hcz33_0 : wc.cell? ⟨gb286, 0, none⟩ = some (.int .i64 a0_0) := (blk_cell BK286.out 0).trans rfl
                    have hcz33_1 : wc.cell? ⟨gb286, 1, none⟩ = some (.int .i64 a0_1) := (blk_cell BK286.out 1).trans rfl
                    have hcz33_2 : wc.cell? ⟨gb286, 2, none⟩ = some (.int .i64 a0_2) := (blk_cell BK286.out 2).trans rfl
                    have hcz33_3 : wc.cell? ⟨gb286, 3, none⟩ = some (.int .i64 a0_3) := (blk_cell BK286.out 3).trans rfl
                    have hcz33_4 : wc.cell? ⟨gb286, 4, none⟩ = some (.int .i64 a0_4) := (blk_cell BK286.out 4).trans rfl
                    have hfz33_0 := blk_frozen BK286.out 0
                    have hfz33_1 := blk_frozen BK286.out 1
                    have hfz33_2 := blk_frozen BK286.out 2
                    have hfz33_3 := blk_frozen BK286.out 3
                    have hfz33_4 := blk_frozen BK286.out 4
                    go_wp2
                    go_ret
                    exact ⟨by first | rfl | (simp [errW_none, errW_some] <;> rfl) | (simp [*, errW_none, errW_some] <;> rfl), by repeat (first | (with_reducible first | exact HB.out | apply below_alloc | apply pw_below_drewN | apply below_drew1 | refine below_set ?_ GE286.out) | exact HB.out)⟩
                · rw [if_neg c30] at H
                  have c30b0 : decide (a0_1 ≤ 365) = false := decide_eq_false c30
                  clear c30
                  obtain rfl := Option.some.inj H
                  have hcz34_0 : wc.cell? ⟨gb286, 0, none⟩ = some (.int .i64 a0_0) := (blk_cell BK286.out 0).trans rfl
                  have hcz34_1 : wc.cell? ⟨gb286, 1, none⟩ = some (.int .i64 a0_1) := (blk_cell BK286.out 1).trans rfl
                  have hcz34_2 : wc.cell? ⟨gb286, 2, none⟩ = some (.int .i64 a0_2) := (blk_cell BK286.out 2).trans rfl
                  have hcz34_3 : wc.cell? ⟨gb286, 3, none⟩ = some (.int .i64 a0_3) := (blk_cell BK286.out 3).trans rfl
                  have hcz34_4 : wc.cell? ⟨gb286, 4, none⟩ = some (.int .i64 a0_4) := (blk_cell BK286.out 4).trans rfl
                  have hfz34_0 := blk_frozen BK286.out 0
                  have hfz34_1 := blk_frozen BK286.out 1
                  have hfz34_2 := blk_frozen BK286.out 2
                  have hfz34_3 := blk_frozen BK286.out 3
                  have hfz34_4 := blk_frozen BK286.out 4
                  go_wp2
                  go_ret
                  exact ⟨by first | rfl | (simp [errW_none, errW_some] <;> rfl) | (simp [*, errW_none, errW_some] <;> rfl), by repeat (first | (with_reducible first | exact HB.out | apply below_alloc | apply pw_below_drewN | apply below_drew1 | refine below_set ?_ GE286.out) | exact HB.out)⟩
              · rw [if_neg c29] at H
                have c29b0 : decide (0 ≤ a0_1) = false := decide_eq_false c29
                clear c29
                obtain rfl := Option.some.inj H
                have hcz35_0 : wc.cell? ⟨gb286, 0, none⟩ = some (.int .i64 a0_0) := (blk_cell BK286.out 0).trans rfl
                have hcz35_1 : wc.cell? ⟨gb286, 1, none⟩ = some (.int .i64 a0_1) := (blk_cell BK286.out 1).trans rfl
                have hcz35_2 : wc.cell? ⟨gb286, 2, none⟩ = some (.int .i64 a0_2) := (blk_cell BK286.out 2).trans rfl
                have hcz35_3 : wc.cell? ⟨gb286, 3, none⟩ = some (.int .i64 a0_3) := (blk_cell BK286.out 3).trans rfl
                have hcz35_4 : wc.cell? ⟨gb286, 4, none⟩ = some (.int .i64 a0_4) := (blk_cell BK286.out 4).trans rfl
                have hfz35_0 := blk_frozen BK286.out 0
                have hfz35_1 := blk_frozen BK286.out 1
                have hfz35_2 := blk_frozen BK286.out 2
                have hfz35_3 := blk_frozen BK286.out 3
                have hfz35_4 := blk_frozen BK286.out 4
                go_wp2
                go_ret
                exact ⟨by first | rfl | (simp [errW_none, errW_some] <;> rfl) | (simp [*, errW_none, errW_some] <;> rfl), by repeat (first | (with_reducible first | exact HB.out | apply below_alloc | apply pw_below_drewN | apply below_drew1 | refine below_set ?_ GE286.out) | exact HB.out)⟩
            · rw [if_neg c28] at H
              have c28b0 : (a0_0 == 2) = false := beq_eq_false_iff_ne.mpr c28
              have c28b1 : (a0_0 != 2) = true := bne_iff_ne.mpr c28
              obtain rfl := Option.some.inj H
              have hcz36_0 : wc.cell? ⟨gb286, 0, none⟩ = some (.int .i64 a0_0) := (blk_cell BK286.out 0).trans rfl
              have hcz36_1 : wc.cell? ⟨gb286, 1, none⟩ = some (.int .i64 a0_1) := (blk_cell BK286.out 1).trans rfl
              have hcz36_2 : wc.cell? ⟨gb286, 2, none⟩ = some (.int .i64 a0_2) := (blk_cell BK286.out 2).trans rfl
              have hcz36_3 : wc.cell? ⟨gb286, 3, none⟩ = some (.int .i64 a0_3) := (blk_cell BK286.out 3).trans rfl
              have hcz36_4 : wc.cell? ⟨gb286, 4, none⟩ = some (.int .i64 a0_4) := (blk_cell BK286.out 4).trans rfl
              have hfz36_0 := blk_frozen BK286.out 0
              have hfz36_1 := blk_frozen BK286.out 1
              have hfz36_2 := blk_frozen BK286.out 2
              have hfz36_3 := blk_frozen BK286.out 3
              have hfz36_4 := blk_frozen BK286.out 4
              go_wp2
              go_ret
              exact ⟨by first | rfl | (simp [errW_none, errW_some] <;> rfl) | (simp [*, errW_none, errW_some] <;> rfl), by repeat (first | (with_reducible first | exact HB.out | apply below_alloc | apply pw_below_drewN | apply below_drew1 | refine below_set ?_ GE286.out) | exact HB.out)⟩

end Go.Proofs.YtghjemcbkackjaaDoor.P
