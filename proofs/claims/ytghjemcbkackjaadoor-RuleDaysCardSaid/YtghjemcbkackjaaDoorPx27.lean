-- written by this project's program mkprint.py out of the translation; Lean checks it
import Derived.Test.YtghjemcbkackjaaDoorPx0
import Derived.Test.YtghjemcbkackjaaDoorPx4
import Derived.Test.YtghjemcbkackjaaDoorPx7
import Derived.Test.YtghjemcbkackjaaDoorPx9
import Derived.Test.YtghjemcbkackjaaDoorPx26
import Derived.Test.YtghjemcbkackjaaDoorPxS
namespace Go.Proofs.YtghjemcbkackjaaDoor.P
open Go.Proofs.YtghjemcbkackjaaDoor.F
open Go.RowKit Go.Proofs.YtghjemcbkackjaaDoorW.PrintWords Go.Proofs.YtghjemcbkackjaaDoorW.PrintLast Go.Proofs.YtghjemcbkackjaaDoorW.PrintMore
attribute [local go_sem] max2_int min2_int max_two min_two max_three min_three max_four min_four   -- for this text's walks alone
set_option linter.unusedVariables false
set_option linter.unusedSimpArgs false

/-! ### epactlaw17_RuleDays: function 11 -/
mutual
def epactlaw17_RuleDays.j0 : Nat → Int → Bool → Bool → Int → Int → Int → Int → Int → Option (Bool)
  | 0, _, _, _, _, _, _, _, _ => none
  | k + 1, x1, x5, x30, x461000, x461001, x461002, x461003, x461004 => if x30 = true then (some x5) else ((rule_Day.f k x461000 x461001 x461002 x461003 x461004 x1).bind fun bt463 => ((day_Date.f k bt463.1).bind fun bt465 => ((day_Last.f x1 x461001).bind fun bt469 => (if bt463.2 = true then (if bt465.2.2.2 = true then (if bt465.1 = x1 then (if bt465.2.1 = x461001 then ((day_Week.f bt463.1).bind fun t471 => (epactlaw17_RuleDays.j1 k x5 bt465.2.2.1 bt469.1 (t471 != x461003) x461000 x461001 x461002 x461003 x461004)) else (epactlaw17_RuleDays.j1 k x5 bt465.2.2.1 bt469.1 true x461000 x461001 x461002 x461003 x461004)) else (epactlaw17_RuleDays.j1 k x5 bt465.2.2.1 bt469.1 true x461000 x461001 x461002 x461003 x461004)) else (epactlaw17_RuleDays.j1 k x5 bt465.2.2.1 bt469.1 true x461000 x461001 x461002 x461003 x461004)) else (epactlaw17_RuleDays.j1 k x5 bt465.2.2.1 bt469.1 true x461000 x461001 x461002 x461003 x461004)))))
def epactlaw17_RuleDays.j1 : Nat → Bool → Int → Int → Bool → Int → Int → Int → Int → Int → Option (Bool)
  | 0, _, _, _, _, _, _, _, _, _ => none
  | k + 1, x5, x10, x12, x75, x461000, x461001, x461002, x461003, x461004 => if x75 = true then (some false) else (if x461002 = 5 then (if x5 = true then (some (decide ((wrap64 (x10 + 7)) > x12))) else (some false)) else (if x5 = true then (if x10 > (wrap64 (7 * (wrap64 (x461002 - 1)))) then (some (decide (x10 ≤ (wrap64 (7 * x461002))))) else (some false)) else (some false)))
end
def epactlaw17_RuleDays.f (k : Nat) (a0_0 : Int) (a0_1 : Int) (a0_2 : Int) (a0_3 : Int) (a0_4 : Int) (a1 : Int) : Option (Bool) := (epactlaw17_smallF.f).bind fun t461 => ((rule_Right.f a0_0 a0_1 a0_2 a0_3 a0_4).bind fun t462 => (if t462 = true then (if a0_0 = 0 then (if a1 < 1 then (epactlaw17_RuleDays.j0 k a1 t461 true a0_0 a0_1 a0_2 a0_3 a0_4) else (epactlaw17_RuleDays.j0 k a1 t461 (decide (a1 > 9999)) a0_0 a0_1 a0_2 a0_3 a0_4)) else (epactlaw17_RuleDays.j0 k a1 t461 true a0_0 a0_1 a0_2 a0_3 a0_4)) else (epactlaw17_RuleDays.j0 k a1 t461 true a0_0 a0_1 a0_2 a0_3 a0_4)))
theorem epactlaw17_RuleDays.mono_l : ∀ k, (∀ y0 y1 y2 y3 y4 y5 y6 y7, LeO (epactlaw17_RuleDays.j0 k y0 y1 y2 y3 y4 y5 y6 y7) (epactlaw17_RuleDays.j0 (k + 1) y0 y1 y2 y3 y4 y5 y6 y7)) ∧ (∀ y0 y1 y2 y3 y4 y5 y6 y7 y8, LeO (epactlaw17_RuleDays.j1 k y0 y1 y2 y3 y4 y5 y6 y7 y8) (epactlaw17_RuleDays.j1 (k + 1) y0 y1 y2 y3 y4 y5 y6 y7 y8))
  | 0 => ⟨fun _ _ _ _ _ _ _ _ r h => by simp [epactlaw17_RuleDays.j0] at h, fun _ _ _ _ _ _ _ _ _ r h => by simp [epactlaw17_RuleDays.j1] at h⟩
  | k + 1 => by
    obtain ⟨ih0, ih1⟩ := epactlaw17_RuleDays.mono_l k
    refine ⟨?_, ?_⟩
    · intro y0 y1 y2 y3 y4 y5 y6 y7
      unfold epactlaw17_RuleDays.j0
      repeat' first
      | (with_reducible exact ih0 _ _ _ _ _ _ _ _)
      | (with_reducible exact ih1 _ _ _ _ _ _ _ _ _)
      | (with_reducible exact day_Date.mono _ _)
      | (with_reducible exact rule_Day.mono _ _ _ _ _ _ _)
      | (with_reducible exact LeO.refl _)
      | (with_reducible exact LeO.none _)
      | (with_reducible refine LeO.ite ?_ ?_)
      | (with_reducible refine LeO.bind ?_ (fun _ => ?_))
      | exact ih0 _ _ _ _ _ _ _ _
      | exact ih1 _ _ _ _ _ _ _ _ _
      | exact day_Date.mono _ _
      | exact rule_Day.mono _ _ _ _ _ _ _
      | exact LeO.none _
      | refine LeO.ite ?_ ?_
      | refine LeO.bind ?_ (fun _ => ?_)
    · intro y0 y1 y2 y3 y4 y5 y6 y7 y8
      unfold epactlaw17_RuleDays.j1
      repeat' first
      | (with_reducible exact ih0 _ _ _ _ _ _ _ _)
      | (with_reducible exact ih1 _ _ _ _ _ _ _ _ _)
      | (with_reducible exact day_Date.mono _ _)
      | (with_reducible exact rule_Day.mono _ _ _ _ _ _ _)
      | (with_reducible exact LeO.refl _)
      | (with_reducible exact LeO.none _)
      | (with_reducible refine LeO.ite ?_ ?_)
      | (with_reducible refine LeO.bind ?_ (fun _ => ?_))
      | exact ih0 _ _ _ _ _ _ _ _
      | exact ih1 _ _ _ _ _ _ _ _ _
      | exact day_Date.mono _ _
      | exact rule_Day.mono _ _ _ _ _ _ _
      | exact LeO.none _
      | refine LeO.ite ?_ ?_
      | refine LeO.bind ?_ (fun _ => ?_)
theorem epactlaw17_RuleDays.mono : ∀ a0 a1 a2 a3 a4 a5 k, LeO (epactlaw17_RuleDays.f k a0 a1 a2 a3 a4 a5) (epactlaw17_RuleDays.f (k + 1) a0 a1 a2 a3 a4 a5) := by
  intro a0 a1 a2 a3 a4 a5 k
  obtain ⟨ih0, ih1⟩ := epactlaw17_RuleDays.mono_l k
  unfold epactlaw17_RuleDays.f
  repeat' first
      | (with_reducible exact ih0 _ _ _ _ _ _ _ _)
      | (with_reducible exact ih1 _ _ _ _ _ _ _ _ _)
      | (with_reducible exact day_Date.mono _ _)
      | (with_reducible exact rule_Day.mono _ _ _ _ _ _ _)
      | (with_reducible exact LeO.refl _)
      | (with_reducible exact LeO.none _)
      | (with_reducible refine LeO.ite ?_ ?_)
      | (with_reducible refine LeO.bind ?_ (fun _ => ?_))
      | exact ih0 _ _ _ _ _ _ _ _
      | exact ih1 _ _ _ _ _ _ _ _ _
      | exact day_Date.mono _ _
      | exact rule_Day.mono _ _ _ _ _ _ _
      | exact LeO.none _
      | refine LeO.ite ?_ ?_
      | refine LeO.bind ?_ (fun _ => ?_)
set_option maxHeartbeats 8000000 in
set_option maxRecDepth 100000 in
theorem epactlaw17_RuleDays.calls (k : Nat) (a0_0 : Int) (a0_1 : Int) (a0_2 : Int) (a0_3 : Int) (a0_4 : Int) (a1 : Int) (w : World) (hG : GW w) (h : epactlaw17_RuleDays.f k a0_0 a0_1 a0_2 a0_3 a0_4 a1 = some true) :
    Calls Tryd.prog 11 #[.agg #[.int .i64 a0_0, .int .i64 a0_1, .int .i64 a0_2, .int .i64 a0_3, .int .i64 a0_4], .int .i64 a1] w fun e w' => e = .returned (.bool true) ∧ Below w.heap.size w w' := by
  have hu42 := Tryd.underlying42
  have HB := Aside0.mk (Below.refl w.heap.size w)
  have H : ((epactlaw17_smallF.f).bind fun t461 => ((rule_Right.f a0_0 a0_1 a0_2 a0_3 a0_4).bind fun t462 => (if t462 = true then (if a0_0 = 0 then (if a1 < 1 then (epactlaw17_RuleDays.j0 k a1 t461 true a0_0 a0_1 a0_2 a0_3 a0_4) else (epactlaw17_RuleDays.j0 k a1 t461 (decide (a1 > 9999)) a0_0 a0_1 a0_2 a0_3 a0_4)) else (epactlaw17_RuleDays.j0 k a1 t461 true a0_0 a0_1 a0_2 a0_3 a0_4)) else (epactlaw17_RuleDays.j0 k a1 t461 true a0_0 a0_1 a0_2 a0_3 a0_4)))) = some true := h
  clear h
  replace H := Option.bind_eq_some_iff.mp H
  obtain ⟨t461, A30, H⟩ := H
  replace H : ((rule_Right.f a0_0 a0_1 a0_2 a0_3 a0_4).bind fun t462 => (if t462 = true then (if a0_0 = 0 then (if a1 < 1 then (epactlaw17_RuleDays.j0 k a1 t461 true a0_0 a0_1 a0_2 a0_3 a0_4) else (epactlaw17_RuleDays.j0 k a1 t461 (decide (a1 > 9999)) a0_0 a0_1 a0_2 a0_3 a0_4)) else (epactlaw17_RuleDays.j0 k a1 t461 true a0_0 a0_1 a0_2 a0_3 a0_4)) else (epactlaw17_RuleDays.j0 k a1 t461 true a0_0 a0_1 a0_2 a0_3 a0_4))) = some true := H
  have A3 := Aside0.mk A30
  clear A30
  have HC4 := Aside0.mk H
  clear H
  go_enter Tryd.func11, Tryd.ntmps11
  go_upto_region 2 with (first | ((with_reducible refine gate_dst (N := 2) rfl ?_); refine box_event ?hg (N := 2) ?hd (cs := #[.int .i64 a0_0, .int .i64 a0_1, .int .i64 a0_2, .int .i64 a0_3, .int .i64 a0_4]) (t := 42) ?hr ?_; (case hd => rfl); (case hg => rfl); (case hr => first | (go_simp; done) | (go_simp; rfl)); intro gb460 hg w5 hbox hb; have n0_ := Aside0.mk (below_step (by repeat (first | (with_reducible first | exact HB.out | apply below_alloc | apply pw_below_drewN | apply below_drew1) | exact HB.out)) hb); have n1_ := Aside0.mk (hbox); have n2_ := Aside0.mk ((by rw [hg]; exact (below_size (by repeat (first | (with_reducible first | exact HB.out | apply below_alloc | apply pw_below_drewN | apply below_drew1) | exact HB.out))) : w.heap.size ≤ gb460)); have n3_ := Aside0.mk ((by rw [hg]; exact (below_size (by repeat (first | (with_reducible first | exact HB.out | apply below_alloc | apply pw_below_drewN | apply below_drew1) | exact HB.out))) : w.heap.size ≤ gb460)); clear HB; have HB := n0_; have BK460 := n1_; have GW460 := n2_; have GE460 := n3_; clear n0_ n1_ n2_ n3_; clear hb hbox hg) | (go_at_call 21; (with_reducible refine (epactlaw17_smallF.calls  t461 _ ?side706 A3.out).mono ?_); (case side706 => first | exact hG | exact hG.at1 HB | exact hG.drewN _ | (refine hG.below ?_; repeat (first | (with_reducible first | exact HB.out | apply below_alloc | apply pw_below_drewN | apply below_drew1 | refine below_set ?_ GE460.out) | exact HB.out))); rintro e w7 ⟨rfl, hb⟩; have n0_ := Aside0.mk (blk_below (g := gb460) (o := .cells #[.int .i64 a0_0, .int .i64 a0_1, .int .i64 a0_2, .int .i64 a0_3, .int .i64 a0_4] 42 (0, 0)) (by (with_reducible repeat (first | refine blk_drewN ?_ _ | refine blk_drew ?_ | refine blk_alloc ?_ _)); exact BK460.out) hb); have n1_ := Aside0.mk (below_step (by repeat (first | (with_reducible first | exact HB.out | apply below_alloc | apply pw_below_drewN | apply below_drew1 | refine below_set ?_ GE460.out) | exact HB.out)) hb); clear BK460; clear HB; have BK460 := n0_; have HB := n1_; clear n0_ n1_; (try clear hb); (try clear hb2); (try clear hk); (try clear hi)))
  repeat (go_quiet (first | ((with_reducible refine gate_dst (N := 2) rfl ?_); refine box_event ?hg (N := 2) ?hd (cs := #[.int .i64 a0_0, .int .i64 a0_1, .int .i64 a0_2, .int .i64 a0_3, .int .i64 a0_4]) (t := 42) ?hr ?_; (case hd => rfl); (case hg => rfl); (case hr => first | (go_simp; done) | (go_simp; rfl)); intro gb460 hg w5 hbox hb; have n0_ := Aside0.mk (below_step (by repeat (first | (with_reducible first | exact HB.out | apply below_alloc | apply pw_below_drewN | apply below_drew1) | exact HB.out)) hb); have n1_ := Aside0.mk (hbox); have n2_ := Aside0.mk ((by rw [hg]; exact (below_size (by repeat (first | (with_reducible first | exact HB.out | apply below_alloc | apply pw_below_drewN | apply below_drew1) | exact HB.out))) : w.heap.size ≤ gb460)); have n3_ := Aside0.mk ((by rw [hg]; exact (below_size (by repeat (first | (with_reducible first | exact HB.out | apply below_alloc | apply pw_below_drewN | apply below_drew1) | exact HB.out))) : w.heap.size ≤ gb460)); clear HB; have HB := n0_; have BK460 := n1_; have GW460 := n2_; have GE460 := n3_; clear n0_ n1_ n2_ n3_; clear hb hbox hg) | (go_at_call 21; (with_reducible refine (epactlaw17_smallF.calls  t461 _ ?side706 A3.out).mono ?_); (case side706 => first | exact hG | exact hG.at1 HB | exact hG.drewN _ | (refine hG.below ?_; repeat (first | (with_reducible first | exact HB.out | apply below_alloc | apply pw_below_drewN | apply below_drew1 | refine below_set ?_ GE460.out) | exact HB.out))); rintro e w7 ⟨rfl, hb⟩; have n0_ := Aside0.mk (blk_below (g := gb460) (o := .cells #[.int .i64 a0_0, .int .i64 a0_1, .int .i64 a0_2, .int .i64 a0_3, .int .i64 a0_4] 42 (0, 0)) (by (with_reducible repeat (first | refine blk_drewN ?_ _ | refine blk_drew ?_ | refine blk_alloc ?_ _)); exact BK460.out) hb); have n1_ := Aside0.mk (below_step (by repeat (first | (with_reducible first | exact HB.out | apply below_alloc | apply pw_below_drewN | apply below_drew1 | refine below_set ?_ GE460.out) | exact HB.out)) hb); clear BK460; clear HB; have BK460 := n0_; have HB := n1_; clear n0_ n1_; (try clear hb); (try clear hb2); (try clear hk); (try clear hi))); go_upto_region 2 with (first | ((with_reducible refine gate_dst (N := 2) rfl ?_); refine box_event ?hg (N := 2) ?hd (cs := #[.int .i64 a0_0, .int .i64 a0_1, .int .i64 a0_2, .int .i64 a0_3, .int .i64 a0_4]) (t := 42) ?hr ?_; (case hd => rfl); (case hg => rfl); (case hr => first | (go_simp; done) | (go_simp; rfl)); intro gb460 hg w5 hbox hb; have n0_ := Aside0.mk (below_step (by repeat (first | (with_reducible first | exact HB.out | apply below_alloc | apply pw_below_drewN | apply below_drew1) | exact HB.out)) hb); have n1_ := Aside0.mk (hbox); have n2_ := Aside0.mk ((by rw [hg]; exact (below_size (by repeat (first | (with_reducible first | exact HB.out | apply below_alloc | apply pw_below_drewN | apply below_drew1) | exact HB.out))) : w.heap.size ≤ gb460)); have n3_ := Aside0.mk ((by rw [hg]; exact (below_size (by repeat (first | (with_reducible first | exact HB.out | apply below_alloc | apply pw_below_drewN | apply below_drew1) | exact HB.out))) : w.heap.size ≤ gb460)); clear HB; have HB := n0_; have BK460 := n1_; have GW460 := n2_; have GE460 := n3_; clear n0_ n1_ n2_ n3_; clear hb hbox hg) | (go_at_call 21; (with_reducible refine (epactlaw17_smallF.calls  t461 _ ?side706 A3.out).mono ?_); (case side706 => first | exact hG | exact hG.at1 HB | exact hG.drewN _ | (refine hG.below ?_; repeat (first | (with_reducible first | exact HB.out | apply below_alloc | apply pw_below_drewN | apply below_drew1 | refine below_set ?_ GE460.out) | exact HB.out))); rintro e w7 ⟨rfl, hb⟩; have n0_ := Aside0.mk (blk_below (g := gb460) (o := .cells #[.int .i64 a0_0, .int .i64 a0_1, .int .i64 a0_2, .int .i64 a0_3, .int .i64 a0_4] 42 (0, 0)) (by (with_reducible repeat (first | refine blk_drewN ?_ _ | refine blk_drew ?_ | refine blk_alloc ?_ _)); exact BK460.out) hb); have n1_ := Aside0.mk (below_step (by repeat (first | (with_reducible first | exact HB.out | apply below_alloc | apply pw_below_drewN | apply below_drew1 | refine below_set ?_ GE460.out) | exact HB.out)) hb); clear BK460; clear HB; have BK460 := n0_; have HB := n1_; clear n0_ n1_; (try clear hb); (try clear hb2); (try clear hk); (try clear hi))))
  (try simp only [Act.put, List.setIfInBounds_toArray, List.set_cons_zero, List.set_cons_succ])
  go_cut [30] (fun v30 wc => ∃ (kq : Nat) (x30_3 : Bool), v30 = .bool x30_3 ∧ Aside0 (epactlaw17_RuleDays.j0 kq a1 t461 x30_3 a0_0 a0_1 a0_2 a0_3 a0_4 = some true) ∧ Aside0 (kq ≤ k) ∧ Aside0 (wc.heap[gb460]? = some (.cells #[.int .i64 a0_0, .int .i64 a0_1, .int .i64 a0_2, .int .i64 a0_3, .int .i64 a0_4] 42 (0, 0))) ∧ Aside0 (Below w.heap.size w wc))
  case first =>
    have H := HC4.out
    clear HC4
    replace H := Option.bind_eq_some_iff.mp H
    obtain ⟨t462, A80, H⟩ := H
    replace H : (if t462 = true then (if a0_0 = 0 then (if a1 < 1 then (epactlaw17_RuleDays.j0 k a1 t461 true a0_0 a0_1 a0_2 a0_3 a0_4) else (epactlaw17_RuleDays.j0 k a1 t461 (decide (a1 > 9999)) a0_0 a0_1 a0_2 a0_3 a0_4)) else (epactlaw17_RuleDays.j0 k a1 t461 true a0_0 a0_1 a0_2 a0_3 a0_4)) else (epactlaw17_RuleDays.j0 k a1 t461 true a0_0 a0_1 a0_2 a0_3 a0_4)) = some true := H
    have A8 := Aside0.mk A80
    clear A80
    by_cases c9 : t462 = true
    · subst c9
      have H1 : (if a0_0 = 0 then (if a1 < 1 then (epactlaw17_RuleDays.j0 k a1 t461 true a0_0 a0_1 a0_2 a0_3 a0_4) else (epactlaw17_RuleDays.j0 k a1 t461 (decide (a1 > 9999)) a0_0 a0_1 a0_2 a0_3 a0_4)) else (epactlaw17_RuleDays.j0 k a1 t461 true a0_0 a0_1 a0_2 a0_3 a0_4)) = some true := by rw [if_pos rfl] at H; exact H
      clear H
      have H := H1
      clear H1
      by_cases c10 : a0_0 = 0
      · rw [if_pos c10] at H
        have c10b0 : (a0_0 == 0) = true := beq_iff_eq.mpr c10
        have c10b1 : (a0_0 != 0) = false := bne_eq_false_iff_eq.mpr c10
        clear c10
        (first | rw [c10b0] | (simp only [i64_w, i32_w]; rw [c10b0]) | skip)
        by_cases c11 : a1 < 1
        · rw [if_pos c11] at H
          have c11b0 : decide (a1 < 1) = true := decide_eq_true c11
          clear c11
          have H' := Aside0.mk H
          clear H
          have hcz12_0 : w7.cell? ⟨gb460, 0, none⟩ = some (.int .i64 a0_0) := (blk_cell BK460.out 0).trans rfl
          have hcz12_1 : w7.cell? ⟨gb460, 1, none⟩ = some (.int .i64 a0_1) := (blk_cell BK460.out 1).trans rfl
          have hcz12_2 : w7.cell? ⟨gb460, 2, none⟩ = some (.int .i64 a0_2) := (blk_cell BK460.out 2).trans rfl
          have hcz12_3 : w7.cell? ⟨gb460, 3, none⟩ = some (.int .i64 a0_3) := (blk_cell BK460.out 3).trans rfl
          have hcz12_4 : w7.cell? ⟨gb460, 4, none⟩ = some (.int .i64 a0_4) := (blk_cell BK460.out 4).trans rfl
          have hfz12_0 := blk_frozen BK460.out 0
          have hfz12_1 := blk_frozen BK460.out 1
          have hfz12_2 := blk_frozen BK460.out 2
          have hfz12_3 := blk_frozen BK460.out 3
          have hfz12_4 := blk_frozen BK460.out 4
          go_wp2_with (first | (go_at_call 34; (with_reducible refine (rule_Right.calls a0_0 a0_1 a0_2 a0_3 a0_4 true _ ?side713 A8.out).mono ?_); (case side713 => first | exact hG | exact hG.at1 HB | exact hG.drewN _ | (refine hG.below ?_; repeat (first | (with_reducible first | exact HB.out | apply below_alloc | apply pw_below_drewN | apply below_drew1 | refine below_set ?_ GE460.out) | exact HB.out))); rintro e w14 ⟨rfl, hb⟩; have n0_ := Aside0.mk (blk_below (g := gb460) (o := .cells #[.int .i64 a0_0, .int .i64 a0_1, .int .i64 a0_2, .int .i64 a0_3, .int .i64 a0_4] 42 (0, 0)) (by (with_reducible repeat (first | refine blk_drewN ?_ _ | refine blk_drew ?_ | refine blk_alloc ?_ _)); exact BK460.out) hb); have n1_ := Aside0.mk (below_step (by repeat (first | (with_reducible first | exact HB.out | apply below_alloc | apply pw_below_drewN | apply below_drew1 | refine below_set ?_ GE460.out) | exact HB.out)) hb); clear BK460; clear HB; have BK460 := n0_; have HB := n1_; clear n0_ n1_; (try clear hb); (try clear hb2); (try clear hk); (try clear hi); have hcz15_0 : w14.cell? ⟨gb460, 0, none⟩ = some (.int .i64 a0_0) := (blk_cell BK460.out 0).trans rfl; have hcz15_1 : w14.cell? ⟨gb460, 1, none⟩ = some (.int .i64 a0_1) := (blk_cell BK460.out 1).trans rfl; have hcz15_2 : w14.cell? ⟨gb460, 2, none⟩ = some (.int .i64 a0_2) := (blk_cell BK460.out 2).trans rfl; have hcz15_3 : w14.cell? ⟨gb460, 3, none⟩ = some (.int .i64 a0_3) := (blk_cell BK460.out 3).trans rfl; have hcz15_4 : w14.cell? ⟨gb460, 4, none⟩ = some (.int .i64 a0_4) := (blk_cell BK460.out 4).trans rfl; have hfz15_0 := blk_frozen BK460.out 0; have hfz15_1 := blk_frozen BK460.out 1; have hfz15_2 := blk_frozen BK460.out 2; have hfz15_3 := blk_frozen BK460.out 3; have hfz15_4 := blk_frozen BK460.out 4))
          repeat (go_quiet (first | (go_at_call 34; (with_reducible refine (rule_Right.calls a0_0 a0_1 a0_2 a0_3 a0_4 true _ ?side713 A8.out).mono ?_); (case side713 => first | exact hG | exact hG.at1 HB | exact hG.drewN _ | (refine hG.below ?_; repeat (first | (with_reducible first | exact HB.out | apply below_alloc | apply pw_below_drewN | apply below_drew1 | refine below_set ?_ GE460.out) | exact HB.out))); rintro e w14 ⟨rfl, hb⟩; have n0_ := Aside0.mk (blk_below (g := gb460) (o := .cells #[.int .i64 a0_0, .int .i64 a0_1, .int .i64 a0_2, .int .i64 a0_3, .int .i64 a0_4] 42 (0, 0)) (by (with_reducible repeat (first | refine blk_drewN ?_ _ | refine blk_drew ?_ | refine blk_alloc ?_ _)); exact BK460.out) hb); have n1_ := Aside0.mk (below_step (by repeat (first | (with_reducible first | exact HB.out | apply below_alloc | apply pw_below_drewN | apply below_drew1 | refine below_set ?_ GE460.out) | exact HB.out)) hb); clear BK460; clear HB; have BK460 := n0_; have HB := n1_; clear n0_ n1_; (try clear hb); (try clear hb2); (try clear hk); (try clear hi); have hcz15_0 : w14.cell? ⟨gb460, 0, none⟩ = some (.int .i64 a0_0) := (blk_cell BK460.out 0).trans rfl; have hcz15_1 : w14.cell? ⟨gb460, 1, none⟩ = some (.int .i64 a0_1) := (blk_cell BK460.out 1).trans rfl; have hcz15_2 : w14.cell? ⟨gb460, 2, none⟩ = some (.int .i64 a0_2) := (blk_cell BK460.out 2).trans rfl; have hcz15_3 : w14.cell? ⟨gb460, 3, none⟩ = some (.int .i64 a0_3) := (blk_cell BK460.out 3).trans rfl; have hcz15_4 : w14.cell? ⟨gb460, 4, none⟩ = some (.int .i64 a0_4) := (blk_cell BK460.out 4).trans rfl; have hfz15_0 := blk_frozen BK460.out 0; have hfz15_1 := blk_frozen BK460.out 1; have hfz15_2 := blk_frozen BK460.out 2; have hfz15_3 := blk_frozen BK460.out 3; have hfz15_4 := blk_frozen BK460.out 4)); try go_wp2_with (first | (go_at_call 34; (with_reducible refine (rule_Right.calls a0_0 a0_1 a0_2 a0_3 a0_4 true _ ?side713 A8.out).mono ?_); (case side713 => first | exact hG | exact hG.at1 HB | exact hG.drewN _ | (refine hG.below ?_; repeat (first | (with_reducible first | exact HB.out | apply below_alloc | apply pw_below_drewN | apply below_drew1 | refine below_set ?_ GE460.out) | exact HB.out))); rintro e w14 ⟨rfl, hb⟩; have n0_ := Aside0.mk (blk_below (g := gb460) (o := .cells #[.int .i64 a0_0, .int .i64 a0_1, .int .i64 a0_2, .int .i64 a0_3, .int .i64 a0_4] 42 (0, 0)) (by (with_reducible repeat (first | refine blk_drewN ?_ _ | refine blk_drew ?_ | refine blk_alloc ?_ _)); exact BK460.out) hb); have n1_ := Aside0.mk (below_step (by repeat (first | (with_reducible first | exact HB.out | apply below_alloc | apply pw_below_drewN | apply below_drew1 | refine below_set ?_ GE460.out) | exact HB.out)) hb); clear BK460; clear HB; have BK460 := n0_; have HB := n1_; clear n0_ n1_; (try clear hb); (try clear hb2); (try clear hk); (try clear hi); have hcz15_0 : w14.cell? ⟨gb460, 0, none⟩ = some (.int .i64 a0_0) := (blk_cell BK460.out 0).trans rfl; have hcz15_1 : w14.cell? ⟨gb460, 1, none⟩ = some (.int .i64 a0_1) := (blk_cell BK460.out 1).trans rfl; have hcz15_2 : w14.cell? ⟨gb460, 2, none⟩ = some (.int .i64 a0_2) := (blk_cell BK460.out 2).trans rfl; have hcz15_3 : w14.cell? ⟨gb460, 3, none⟩ = some (.int .i64 a0_3) := (blk_cell BK460.out 3).trans rfl; have hcz15_4 : w14.cell? ⟨gb460, 4, none⟩ = some (.int .i64 a0_4) := (blk_cell BK460.out 4).trans rfl; have hfz15_0 := blk_frozen BK460.out 0; have hfz15_1 := blk_frozen BK460.out 1; have hfz15_2 := blk_frozen BK460.out 2; have hfz15_3 := blk_frozen BK460.out 3; have hfz15_4 := blk_frozen BK460.out 4)))
          go_meet
          case rel => exact ⟨_, (true), (by first | rfl | (simp; done) | (simp [*]; done) | (refine congrArg _ ?_; rw [Bool.eq_iff_iff]; simp; done)), H', ⟨by first | omega | exact Nat.le_refl _⟩, ⟨by (with_reducible repeat (first | refine blk_drewN ?_ _ | refine blk_drew ?_ | refine blk_alloc ?_ _)); exact BK460.out⟩, ⟨by repeat (first | (with_reducible first | exact HB.out | apply below_alloc | apply pw_below_drewN | apply below_drew1 | refine below_set ?_ GE460.out) | exact HB.out)⟩⟩
        · rw [if_neg c11] at H
          have c11b0 : decide (a1 < 1) = false := decide_eq_false c11
          clear c11
          have H' := Aside0.mk H
          clear H
          have hcz16_0 : w7.cell? ⟨gb460, 0, none⟩ = some (.int .i64 a0_0) := (blk_cell BK460.out 0).trans rfl
          have hcz16_1 : w7.cell? ⟨gb460, 1, none⟩ = some (.int .i64 a0_1) := (blk_cell BK460.out 1).trans rfl
          have hcz16_2 : w7.cell? ⟨gb460, 2, none⟩ = some (.int .i64 a0_2) := (blk_cell BK460.out 2).trans rfl
          have hcz16_3 : w7.cell? ⟨gb460, 3, none⟩ = some (.int .i64 a0_3) := (blk_cell BK460.out 3).trans rfl
          have hcz16_4 : w7.cell? ⟨gb460, 4, none⟩ = some (.int .i64 a0_4) := (blk_cell BK460.out 4).trans rfl
          have hfz16_0 := blk_frozen BK460.out 0
          have hfz16_1 := blk_frozen BK460.out 1
          have hfz16_2 := blk_frozen BK460.out 2
          have hfz16_3 := blk_frozen BK460.out 3
          have hfz16_4 := blk_frozen BK460.out 4
          go_wp2_with (first | (go_at_call 34; (with_reducible refine (rule_Right.calls a0_0 a0_1 a0_2 a0_3 a0_4 true _ ?side717 A8.out).mono ?_); (case side717 => first | exact hG | exact hG.at1 HB | exact hG.drewN _ | (refine hG.below ?_; repeat (first | (with_reducible first | exact HB.out | apply below_alloc | apply pw_below_drewN | apply below_drew1 | refine below_set ?_ GE460.out) | exact HB.out))); rintro e w18 ⟨rfl, hb⟩; have n0_ := Aside0.mk (blk_below (g := gb460) (o := .cells #[.int .i64 a0_0, .int .i64 a0_1, .int .i64 a0_2, .int .i64 a0_3, .int .i64 a0_4] 42 (0, 0)) (by (with_reducible repeat (first | refine blk_drewN ?_ _ | refine blk_drew ?_ | refine blk_alloc ?_ _)); exact BK460.out) hb); have n1_ := Aside0.mk (below_step (by repeat (first | (with_reducible first | exact HB.out | apply below_alloc | apply pw_below_drewN | apply below_drew1 | refine below_set ?_ GE460.out) | exact HB.out)) hb); clear BK460; clear HB; have BK460 := n0_; have HB := n1_; clear n0_ n1_; (try clear hb); (try clear hb2); (try clear hk); (try clear hi); have hcz19_0 : w18.cell? ⟨gb460, 0, none⟩ = some (.int .i64 a0_0) := (blk_cell BK460.out 0).trans rfl; have hcz19_1 : w18.cell? ⟨gb460, 1, none⟩ = some (.int .i64 a0_1) := (blk_cell BK460.out 1).trans rfl; have hcz19_2 : w18.cell? ⟨gb460, 2, none⟩ = some (.int .i64 a0_2) := (blk_cell BK460.out 2).trans rfl; have hcz19_3 : w18.cell? ⟨gb460, 3, none⟩ = some (.int .i64 a0_3) := (blk_cell BK460.out 3).trans rfl; have hcz19_4 : w18.cell? ⟨gb460, 4, none⟩ = some (.int .i64 a0_4) := (blk_cell BK460.out 4).trans rfl; have hfz19_0 := blk_frozen BK460.out 0; have hfz19_1 := blk_frozen BK460.out 1; have hfz19_2 := blk_frozen BK460.out 2; have hfz19_3 := blk_frozen BK460.out 3; have hfz19_4 := blk_frozen BK460.out 4))
          repeat (go_quiet (first | (go_at_call 34; (with_reducible refine (rule_Right.calls a0_0 a0_1 a0_2 a0_3 a0_4 true _ ?side717 A8.out).mono ?_); (case side717 => first | exact hG | exact hG.at1 HB | exact hG.drewN _ | (refine hG.below ?_; repeat (first | (with_reducible first | exact HB.out | apply below_alloc | apply pw_below_drewN | apply below_drew1 | refine below_set ?_ GE460.out) | exact HB.out))); rintro e w18 ⟨rfl, hb⟩; have n0_ := Aside0.mk (blk_below (g := gb460) (o := .cells #[.int .i64 a0_0, .int .i64 a0_1, .int .i64 a0_2, .int .i64 a0_3, .int .i64 a0_4] 42 (0, 0)) (by (with_reducible repeat (first | refine blk_drewN ?_ _ | refine blk_drew ?_ | refine blk_alloc ?_ _)); exact BK460.out) hb); have n1_ := Aside0.mk (below_step (by repeat (first | (with_reducible first | exact HB.out | apply below_alloc | apply pw_below_drewN | apply below_drew1 | refine below_set ?_ GE460.out) | exact HB.out)) hb); clear BK460; clear HB; have BK460 := n0_; have HB := n1_; clear n0_ n1_; (try clear hb); (try clear hb2); (try clear hk); (try clear hi); have hcz19_0 : w18.cell? ⟨gb460, 0, none⟩ = some (.int .i64 a0_0) := (blk_cell BK460.out 0).trans rfl; have hcz19_1 : w18.cell? ⟨gb460, 1, none⟩ = some (.int .i64 a0_1) := (blk_cell BK460.out 1).trans rfl; have hcz19_2 : w18.cell? ⟨gb460, 2, none⟩ = some (.int .i64 a0_2) := (blk_cell BK460.out 2).trans rfl; have hcz19_3 : w18.cell? ⟨gb460, 3, none⟩ = some (.int .i64 a0_3) := (blk_cell BK460.out 3).trans rfl; have hcz19_4 : w18.cell? ⟨gb460, 4, none⟩ = some (.int .i64 a0_4) := (blk_cell BK460.out 4).trans rfl; have hfz19_0 := blk_frozen BK460.out 0; have hfz19_1 := blk_frozen BK460.out 1; have hfz19_2 := blk_frozen BK460.out 2; have hfz19_3 := blk_frozen BK460.out 3; have hfz19_4 := blk_frozen BK460.out 4)); try go_wp2_with (first | (go_at_call 34; (with_reducible refine (rule_Right.calls a0_0 a0_1 a0_2 a0_3 a0_4 true _ ?side717 A8.out).mono ?_); (case side717 => first | exact hG | exact hG.at1 HB | exact hG.drewN _ | (refine hG.below ?_; repeat (first | (with_reducible first | exact HB.out | apply below_alloc | apply pw_below_drewN | apply below_drew1 | refine below_set ?_ GE460.out) | exact HB.out))); rintro e w18 ⟨rfl, hb⟩; have n0_ := Aside0.mk (blk_below (g := gb460) (o := .cells #[.int .i64 a0_0, .int .i64 a0_1, .int .i64 a0_2, .int .i64 a0_3, .int .i64 a0_4] 42 (0, 0)) (by (with_reducible repeat (first | refine blk_drewN ?_ _ | refine blk_drew ?_ | refine blk_alloc ?_ _)); exact BK460.out) hb); have n1_ := Aside0.mk (below_step (by repeat (first | (with_reducible first | exact HB.out | apply below_alloc | apply pw_below_drewN | apply below_drew1 | refine below_set ?_ GE460.out) | exact HB.out)) hb); clear BK460; clear HB; have BK460 := n0_; have HB := n1_; clear n0_ n1_; (try clear hb); (try clear hb2); (try clear hk); (try clear hi); have hcz19_0 : w18.cell? ⟨gb460, 0, none⟩ = some (.int .i64 a0_0) := (blk_cell BK460.out 0).trans rfl; have hcz19_1 : w18.cell? ⟨gb460, 1, none⟩ = some (.int .i64 a0_1) := (blk_cell BK460.out 1).trans rfl; have hcz19_2 : w18.cell? ⟨gb460, 2, none⟩ = some (.int .i64 a0_2) := (blk_cell BK460.out 2).trans rfl; have hcz19_3 : w18.cell? ⟨gb460, 3, none⟩ = some (.int .i64 a0_3) := (blk_cell BK460.out 3).trans rfl; have hcz19_4 : w18.cell? ⟨gb460, 4, none⟩ = some (.int .i64 a0_4) := (blk_cell BK460.out 4).trans rfl; have hfz19_0 := blk_frozen BK460.out 0; have hfz19_1 := blk_frozen BK460.out 1; have hfz19_2 := blk_frozen BK460.out 2; have hfz19_3 := blk_frozen BK460.out 3; have hfz19_4 := blk_frozen BK460.out 4)))
          go_meet
          case rel => exact ⟨_, (decide (a1 > 9999)), (by first | rfl | (simp; done) | (simp [*]; done) | (refine congrArg _ ?_; rw [Bool.eq_iff_iff]; simp; done)), H', ⟨by first | omega | exact Nat.le_refl _⟩, ⟨by (with_reducible repeat (first | refine blk_drewN ?_ _ | refine blk_drew ?_ | refine blk_alloc ?_ _)); exact BK460.out⟩, ⟨by repeat (first | (with_reducible first | exact HB.out | apply below_alloc | apply pw_below_drewN | apply below_drew1 | refine below_set ?_ GE460.out) | exact HB.out)⟩⟩
      · rw [if_neg c10] at H
        have c10b0 : (a0_0 == 0) = false := beq_eq_false_iff_ne.mpr c10
        have c10b1 : (a0_0 != 0) = true := bne_iff_ne.mpr c10
        (first | rw [c10b0] | (simp only [i64_w, i32_w]; rw [c10b0]) | skip)
        have H' := Aside0.mk H
        clear H
        have hcz20_0 : w7.cell? ⟨gb460, 0, none⟩ = some (.int .i64 a0_0) := (blk_cell BK460.out 0).trans rfl
        have hcz20_1 : w7.cell? ⟨gb460, 1, none⟩ = some (.int .i64 a0_1) := (blk_cell BK460.out 1).trans rfl
        have hcz20_2 : w7.cell? ⟨gb460, 2, none⟩ = some (.int .i64 a0_2) := (blk_cell BK460.out 2).trans rfl
        have hcz20_3 : w7.cell? ⟨gb460, 3, none⟩ = some (.int .i64 a0_3) := (blk_cell BK460.out 3).trans rfl
        have hcz20_4 : w7.cell? ⟨gb460, 4, none⟩ = some (.int .i64 a0_4) := (blk_cell BK460.out 4).trans rfl
        have hfz20_0 := blk_frozen BK460.out 0
        have hfz20_1 := blk_frozen BK460.out 1
        have hfz20_2 := blk_frozen BK460.out 2
        have hfz20_3 := blk_frozen BK460.out 3
        have hfz20_4 := blk_frozen BK460.out 4
        go_wp2_with (first | (go_at_call 34; (with_reducible refine (rule_Right.calls a0_0 a0_1 a0_2 a0_3 a0_4 true _ ?side721 A8.out).mono ?_); (case side721 => first | exact hG | exact hG.at1 HB | exact hG.drewN _ | (refine hG.below ?_; repeat (first | (with_reducible first | exact HB.out | apply below_alloc | apply pw_below_drewN | apply below_drew1 | refine below_set ?_ GE460.out) | exact HB.out))); rintro e w22 ⟨rfl, hb⟩; have n0_ := Aside0.mk (blk_below (g := gb460) (o := .cells #[.int .i64 a0_0, .int .i64 a0_1, .int .i64 a0_2, .int .i64 a0_3, .int .i64 a0_4] 42 (0, 0)) (by (with_reducible repeat (first | refine blk_drewN ?_ _ | refine blk_drew ?_ | refine blk_alloc ?_ _)); exact BK460.out) hb); have n1_ := Aside0.mk (below_step (by repeat (first | (with_reducible first | exact HB.out | apply below_alloc | apply pw_below_drewN | apply below_drew1 | refine below_set ?_ GE460.out) | exact HB.out)) hb); clear BK460; clear HB; have BK460 := n0_; have HB := n1_; clear n0_ n1_; (try clear hb); (try clear hb2); (try clear hk); (try clear hi); have hcz23_0 : w22.cell? ⟨gb460, 0, none⟩ = some (.int .i64 a0_0) := (blk_cell BK460.out 0).trans rfl; have hcz23_1 : w22.cell? ⟨gb460, 1, none⟩ = some (.int .i64 a0_1) := (blk_cell BK460.out 1).trans rfl; have hcz23_2 : w22.cell? ⟨gb460, 2, none⟩ = some (.int .i64 a0_2) := (blk_cell BK460.out 2).trans rfl; have hcz23_3 : w22.cell? ⟨gb460, 3, none⟩ = some (.int .i64 a0_3) := (blk_cell BK460.out 3).trans rfl; have hcz23_4 : w22.cell? ⟨gb460, 4, none⟩ = some (.int .i64 a0_4) := (blk_cell BK460.out 4).trans rfl; have hfz23_0 := blk_frozen BK460.out 0; have hfz23_1 := blk_frozen BK460.out 1; have hfz23_2 := blk_frozen BK460.out 2; have hfz23_3 := blk_frozen BK460.out 3; have hfz23_4 := blk_frozen BK460.out 4))
        repeat (go_quiet (first | (go_at_call 34; (with_reducible refine (rule_Right.calls a0_0 a0_1 a0_2 a0_3 a0_4 true _ ?side721 A8.out).mono ?_); (case side721 => first | exact hG | exact hG.at1 HB | exact hG.drewN _ | (refine hG.below ?_; repeat (first | (with_reducible first | exact HB.out | apply below_alloc | apply pw_below_drewN | apply below_drew1 | refine below_set ?_ GE460.out) | exact HB.out))); rintro e w22 ⟨rfl, hb⟩; have n0_ := Aside0.mk (blk_below (g := gb460) (o := .cells #[.int .i64 a0_0, .int .i64 a0_1, .int .i64 a0_2, .int .i64 a0_3, .int .i64 a0_4] 42 (0, 0)) (by (with_reducible repeat (first | refine blk_drewN ?_ _ | refine blk_drew ?_ | refine blk_alloc ?_ _)); exact BK460.out) hb); have n1_ := Aside0.mk (below_step (by repeat (first | (with_reducible first | exact HB.out | apply below_alloc | apply pw_below_drewN | apply below_drew1 | refine below_set ?_ GE460.out) | exact HB.out)) hb); clear BK460; clear HB; have BK460 := n0_; have HB := n1_; clear n0_ n1_; (try clear hb); (try clear hb2); (try clear hk); (try clear hi); have hcz23_0 : w22.cell? ⟨gb460, 0, none⟩ = some (.int .i64 a0_0) := (blk_cell BK460.out 0).trans rfl; have hcz23_1 : w22.cell? ⟨gb460, 1, none⟩ = some (.int .i64 a0_1) := (blk_cell BK460.out 1).trans rfl; have hcz23_2 : w22.cell? ⟨gb460, 2, none⟩ = some (.int .i64 a0_2) := (blk_cell BK460.out 2).trans rfl; have hcz23_3 : w22.cell? ⟨gb460, 3, none⟩ = some (.int .i64 a0_3) := (blk_cell BK460.out 3).trans rfl; have hcz23_4 : w22.cell? ⟨gb460, 4, none⟩ = some (.int .i64 a0_4) := (blk_cell BK460.out 4).trans rfl; have hfz23_0 := blk_frozen BK460.out 0; have hfz23_1 := blk_frozen BK460.out 1; have hfz23_2 := blk_frozen BK460.out 2; have hfz23_3 := blk_frozen BK460.out 3; have hfz23_4 := blk_frozen BK460.out 4)); try go_wp2_with (first | (go_at_call 34; (with_reducible refine (rule_Right.calls a0_0 a0_1 a0_2 a0_3 a0_4 true _ ?side721 A8.out).mono ?_); (case side721 => first | exact hG | exact hG.at1 HB | exact hG.drewN _ | (refine hG.below ?_; repeat (first | (with_reducible first | exact HB.out | apply below_alloc | apply pw_below_drewN | apply below_drew1 | refine below_set ?_ GE460.out) | exact HB.out))); rintro e w22 ⟨rfl, hb⟩; have n0_ := Aside0.mk (blk_below (g := gb460) (o := .cells #[.int .i64 a0_0, .int .i64 a0_1, .int .i64 a0_2, .int .i64 a0_3, .int .i64 a0_4] 42 (0, 0)) (by (with_reducible repeat (first | refine blk_drewN ?_ _ | refine blk_drew ?_ | refine blk_alloc ?_ _)); exact BK460.out) hb); have n1_ := Aside0.mk (below_step (by repeat (first | (with_reducible first | exact HB.out | apply below_alloc | apply pw_below_drewN | apply below_drew1 | refine below_set ?_ GE460.out) | exact HB.out)) hb); clear BK460; clear HB; have BK460 := n0_; have HB := n1_; clear n0_ n1_; (try clear hb); (try clear hb2); (try clear hk); (try clear hi); have hcz23_0 : w22.cell? ⟨gb460, 0, none⟩ = some (.int .i64 a0_0) := (blk_cell BK460.out 0).trans rfl; have hcz23_1 : w22.cell? ⟨gb460, 1, none⟩ = some (.int .i64 a0_1) := (blk_cell BK460.out 1).trans rfl; have hcz23_2 : w22.cell? ⟨gb460, 2, none⟩ = some (.int .i64 a0_2) := (blk_cell BK460.out 2).trans rfl; have hcz23_3 : w22.cell? ⟨gb460, 3, none⟩ = some (.int .i64 a0_3) := (blk_cell BK460.out 3).trans rfl; have hcz23_4 : w22.cell? ⟨gb460, 4, none⟩ = some (.int .i64 a0_4) := (blk_cell BK460.out 4).trans rfl; have hfz23_0 := blk_frozen BK460.out 0; have hfz23_1 := blk_frozen BK460.out 1; have hfz23_2 := blk_frozen BK460.out 2; have hfz23_3 := blk_frozen BK460.out 3; have hfz23_4 := blk_frozen BK460.out 4)))
        go_meet
        case rel => exact ⟨_, (true), (by first | rfl | (simp; done) | (simp [*]; done) | (refine congrArg _ ?_; rw [Bool.eq_iff_iff]; simp; done)), H', ⟨by first | omega | exact Nat.le_refl _⟩, ⟨by (with_reducible repeat (first | refine blk_drewN ?_ _ | refine blk_drew ?_ | refine blk_alloc ?_ _)); exact BK460.out⟩, ⟨by repeat (first | (with_reducible first | exact HB.out | apply below_alloc | apply pw_below_drewN | apply below_drew1 | refine below_set ?_ GE460.out) | exact HB.out)⟩⟩
    · replace c9 := Bool.eq_false_iff.mpr c9
      subst c9
      have H1 : (epactlaw17_RuleDays.j0 k a1 t461 true a0_0 a0_1 a0_2 a0_3 a0_4) = some true := by rw [if_neg (show ¬ (false = true) by decide)] at H; exact H
      clear H
      have H := H1
      clear H1
      have H' := Aside0.mk H
      clear H
      have hcz24_0 : w7.cell? ⟨gb460, 0, none⟩ = some (.int .i64 a0_0) := (blk_cell BK460.out 0).trans rfl
      have hcz24_1 : w7.cell? ⟨gb460, 1, none⟩ = some (.int .i64 a0_1) := (blk_cell BK460.out 1).trans rfl
      have hcz24_2 : w7.cell? ⟨gb460, 2, none⟩ = some (.int .i64 a0_2) := (blk_cell BK460.out 2).trans rfl
      have hcz24_3 : w7.cell? ⟨gb460, 3, none⟩ = some (.int .i64 a0_3) := (blk_cell BK460.out 3).trans rfl
      have hcz24_4 : w7.cell? ⟨gb460, 4, none⟩ = some (.int .i64 a0_4) := (blk_cell BK460.out 4).trans rfl
      have hfz24_0 := blk_frozen BK460.out 0
      have hfz24_1 := blk_frozen BK460.out 1
      have hfz24_2 := blk_frozen BK460.out 2
      have hfz24_3 := blk_frozen BK460.out 3
      have hfz24_4 := blk_frozen BK460.out 4
      go_wp2_with (first | (go_at_call 34; (with_reducible refine (rule_Right.calls a0_0 a0_1 a0_2 a0_3 a0_4 false _ ?side725 A8.out).mono ?_); (case side725 => first | exact hG | exact hG.at1 HB | exact hG.drewN _ | (refine hG.below ?_; repeat (first | (with_reducible first | exact HB.out | apply below_alloc | apply pw_below_drewN | apply below_drew1 | refine below_set ?_ GE460.out) | exact HB.out))); rintro e w26 ⟨rfl, hb⟩; have n0_ := Aside0.mk (blk_below (g := gb460) (o := .cells #[.int .i64 a0_0, .int .i64 a0_1, .int .i64 a0_2, .int .i64 a0_3, .int .i64 a0_4] 42 (0, 0)) (by (with_reducible repeat (first | refine blk_drewN ?_ _ | refine blk_drew ?_ | refine blk_alloc ?_ _)); exact BK460.out) hb); have n1_ := Aside0.mk (below_step (by repeat (first | (with_reducible first | exact HB.out | apply below_alloc | apply pw_below_drewN | apply below_drew1 | refine below_set ?_ GE460.out) | exact HB.out)) hb); clear BK460; clear HB; have BK460 := n0_; have HB := n1_; clear n0_ n1_; (try clear hb); (try clear hb2); (try clear hk); (try clear hi)))
      repeat (go_quiet (first | (go_at_call 34; (with_reducible refine (rule_Right.calls a0_0 a0_1 a0_2 a0_3 a0_4 false _ ?side725 A8.out).mono ?_); (case side725 => first | exact hG | exact hG.at1 HB | exact hG.drewN _ | (refine hG.below ?_; repeat (first | (with_reducible first | exact HB.out | apply below_alloc | apply pw_below_drewN | apply below_drew1 | refine below_set ?_ GE460.out) | exact HB.out))); rintro e w26 ⟨rfl, hb⟩; have n0_ := Aside0.mk (blk_below (g := gb460) (o := .cells #[.int .i64 a0_0, .int .i64 a0_1, .int .i64 a0_2, .int .i64 a0_3, .int .i64 a0_4] 42 (0, 0)) (by (with_reducible repeat (first | refine blk_drewN ?_ _ | refine blk_drew ?_ | refine blk_alloc ?_ _)); exact BK460.out) hb); have n1_ := Aside0.mk (below_step (by repeat (first | (with_reducible first | exact HB.out | apply below_alloc | apply pw_below_drewN | apply below_drew1 | refine below_set ?_ GE460.out) | exact HB.out)) hb); clear BK460; clear HB; have BK460 := n0_; have HB := n1_; clear n0_ n1_; (try clear hb); (try clear hb2); (try clear hk); (try clear hi))); try go_wp2_with (first | (go_at_call 34; (with_reducible refine (rule_Right.calls a0_0 a0_1 a0_2 a0_3 a0_4 false _ ?side725 A8.out).mono ?_); (case side725 => first | exact hG | exact hG.at1 HB | exact hG.drewN _ | (refine hG.below ?_; repeat (first | (with_reducible first | exact HB.out | apply below_alloc | apply pw_below_drewN | apply below_drew1 | refine below_set ?_ GE460.out) | exact HB.out))); rintro e w26 ⟨rfl, hb⟩; have n0_ := Aside0.mk (blk_below (g := gb460) (o := .cells #[.int .i64 a0_0, .int .i64 a0_1, .int .i64 a0_2, .int .i64 a0_3, .int .i64 a0_4] 42 (0, 0)) (by (with_reducible repeat (first | refine blk_drewN ?_ _ | refine blk_drew ?_ | refine blk_alloc ?_ _)); exact BK460.out) hb); have n1_ := Aside0.mk (below_step (by repeat (first | (with_reducible first | exact HB.out | apply below_alloc | apply pw_below_drewN | apply below_drew1 | refine below_set ?_ GE460.out) | exact HB.out)) hb); clear BK460; clear HB; have BK460 := n0_; have HB := n1_; clear n0_ n1_; (try clear hb); (try clear hb2); (try clear hk); (try clear hi))))
      go_meet
      case rel => exact ⟨_, (true), (by first | rfl | (simp; done) | (simp [*]; done) | (refine congrArg _ ?_; rw [Bool.eq_iff_iff]; simp; done)), H', ⟨by first | omega | exact Nat.le_refl _⟩, ⟨by (with_reducible repeat (first | refine blk_drewN ?_ _ | refine blk_drew ?_ | refine blk_alloc ?_ _)); exact BK460.out⟩, ⟨by repeat (first | (with_reducible first | exact HB.out | apply below_alloc | apply pw_below_drewN | apply below_drew1 | refine below_set ?_ GE460.out) | exact HB.out)⟩⟩
  case rest =>
    clear HC4
    try clear c1
    try clear p2
    try clear c9
    try clear c10
    try clear c10b0
    try clear c10b1
    try clear c11
    try clear c11b0
    try clear hcz12_0
    try clear hcz12_1
    try clear hcz12_2
    try clear hcz12_3
    try clear hcz12_4
    try clear hcz15_0
    try clear hcz15_1
    try clear hcz15_2
    try clear hcz15_3
    try clear hcz15_4
    try clear hcz16_0
    try clear hcz16_1
    try clear hcz16_2
    try clear hcz16_3
    try clear hcz16_4
    try clear hcz19_0
    try clear hcz19_1
    try clear hcz19_2
    try clear hcz19_3
    try clear hcz19_4
    try clear hcz20_0
    try clear hcz20_1
    try clear hcz20_2
    try clear hcz20_3
    try clear hcz20_4
    try clear hcz23_0
    try clear hcz23_1
    try clear hcz23_2
    try clear hcz23_3
    try clear hcz23_4
    try clear hcz24_0
    try clear hcz24_1
    try clear hcz24_2
    try clear hcz24_3
    try clear hcz24_4
    try clear hfz12_0
    try clear hfz12_1
    try clear hfz12_2
    try clear hfz12_3
    try clear hfz12_4
    try clear hfz15_0
    try clear hfz15_1
    try clear hfz15_2
    try clear hfz15_3
    try clear hfz15_4
    try clear hfz16_0
    try clear hfz16_1
    try clear hfz16_2
    try clear hfz16_3
    try clear hfz16_4
    try clear hfz19_0
    try clear hfz19_1
    try clear hfz19_2
    try clear hfz19_3
    try clear hfz19_4
    try clear hfz20_0
    try clear hfz20_1
    try clear hfz20_2
    try clear hfz20_3
    try clear hfz20_4
    try clear hfz23_0
    try clear hfz23_1
    try clear hfz23_2
    try clear hfz23_3
    try clear hfz23_4
    try clear hfz24_0
    try clear hfz24_1
    try clear hfz24_2
    try clear hfz24_3
    try clear hfz24_4
    obtain ⟨kq, x30_3, rfl, HA, HJ3, BK460, HB⟩ := hcut
    cases kq with
    | zero => exact absurd HA.out (by simp [epactlaw17_RuleDays.j0])
    | succ kj3 =>
      have H := HA.out
      clear HA
      simp only [epactlaw17_RuleDays.j0] at H
      by_cases c27 : x30_3 = true
      · subst c27
        have H1 : (some t461) = some true := by rw [if_pos rfl] at H; exact H
        clear H
        have H := H1
        clear H1
        have hT := Option.some.inj H
        clear H
        try have hT2 : (t461) = true := by simpa using hT
        go_wp2
        repeat (go_quiet (fail); try go_wp2)
        go_ret
        exact ⟨by first | rfl | (simp [errW_none, errW_some] <;> rfl) | (simp [*, errW_none, errW_some] <;> rfl), by repeat (first | (with_reducible first | exact HB.out | apply below_alloc | apply pw_below_drewN | apply below_drew1 | refine below_set ?_ GE460.out) | exact HB.out)⟩
      · replace c27 := Bool.eq_false_iff.mpr c27
        subst c27
        have H1 : ((rule_Day.f kj3 a0_0 a0_1 a0_2 a0_3 a0_4 a1).bind fun bt463 => ((day_Date.f kj3 bt463.1).bind fun bt465 => ((day_Last.f a1 a0_1).bind fun bt469 => (if bt463.2 = true then (if bt465.2.2.2 = true then (if bt465.1 = a1 then (if bt465.2.1 = a0_1 then ((day_Week.f bt463.1).bind fun t471 => (epactlaw17_RuleDays.j1 kj3 t461 bt465.2.2.1 bt469.1 (t471 != a0_3) a0_0 a0_1 a0_2 a0_3 a0_4)) else (epactlaw17_RuleDays.j1 kj3 t461 bt465.2.2.1 bt469.1 true a0_0 a0_1 a0_2 a0_3 a0_4)) else (epactlaw17_RuleDays.j1 kj3 t461 bt465.2.2.1 bt469.1 true a0_0 a0_1 a0_2 a0_3 a0_4)) else (epactlaw17_RuleDays.j1 kj3 t461 bt465.2.2.1 bt469.1 true a0_0 a0_1 a0_2 a0_3 a0_4)) else (epactlaw17_RuleDays.j1 kj3 t461 bt465.2.2.1 bt469.1 true a0_0 a0_1 a0_2 a0_3 a0_4))))) = some true := by rw [if_neg (show ¬ (false = true) by decide)] at H; exact H
        clear H
        have H := H1
        clear H1
        replace H := Option.bind_eq_some_iff.mp H
        obtain ⟨⟨t463, t464⟩, A280, H⟩ := H
        replace H : ((day_Date.f kj3 t463).bind fun bt465 => ((day_Last.f a1 a0_1).bind fun bt469 => (if t464 = true then (if bt465.2.2.2 = true then (if bt465.1 = a1 then (if bt465.2.1 = a0_1 then ((day_Week.f t463).bind fun t471 => (epactlaw17_RuleDays.j1 kj3 t461 bt465.2.2.1 bt469.1 (t471 != a0_3) a0_0 a0_1 a0_2 a0_3 a0_4)) else (epactlaw17_RuleDays.j1 kj3 t461 bt465.2.2.1 bt469.1 true a0_0 a0_1 a0_2 a0_3 a0_4)) else (epactlaw17_RuleDays.j1 kj3 t461 bt465.2.2.1 bt469.1 true a0_0 a0_1 a0_2 a0_3 a0_4)) else (epactlaw17_RuleDays.j1 kj3 t461 bt465.2.2.1 bt469.1 true a0_0 a0_1 a0_2 a0_3 a0_4)) else (epactlaw17_RuleDays.j1 kj3 t461 bt465.2.2.1 bt469.1 true a0_0 a0_1 a0_2 a0_3 a0_4)))) = some true := H
        have A28 := Aside0.mk A280
        clear A280
        replace H := Option.bind_eq_some_iff.mp H
        obtain ⟨⟨t465, t466, t467, t468⟩, A290, H⟩ := H
        replace H : ((day_Last.f a1 a0_1).bind fun bt469 => (if t464 = true then (if t468 = true then (if t465 = a1 then (if t466 = a0_1 then ((day_Week.f t463).bind fun t471 => (epactlaw17_RuleDays.j1 kj3 t461 t467 bt469.1 (t471 != a0_3) a0_0 a0_1 a0_2 a0_3 a0_4)) else (epactlaw17_RuleDays.j1 kj3 t461 t467 bt469.1 true a0_0 a0_1 a0_2 a0_3 a0_4)) else (epactlaw17_RuleDays.j1 kj3 t461 t467 bt469.1 true a0_0 a0_1 a0_2 a0_3 a0_4)) else (epactlaw17_RuleDays.j1 kj3 t461 t467 bt469.1 true a0_0 a0_1 a0_2 a0_3 a0_4)) else (epactlaw17_RuleDays.j1 kj3 t461 t467 bt469.1 true a0_0 a0_1 a0_2 a0_3 a0_4))) = some true := H
        have A29 := Aside0.mk A290
        clear A290
        replace H := Option.bind_eq_some_iff.mp H
        obtain ⟨⟨t469, t470⟩, A300, H⟩ := H
        replace H : (if t464 = true then (if t468 = true then (if t465 = a1 then (if t466 = a0_1 then ((day_Week.f t463).bind fun t471 => (epactlaw17_RuleDays.j1 kj3 t461 t467 t469 (t471 != a0_3) a0_0 a0_1 a0_2 a0_3 a0_4)) else (epactlaw17_RuleDays.j1 kj3 t461 t467 t469 true a0_0 a0_1 a0_2 a0_3 a0_4)) else (epactlaw17_RuleDays.j1 kj3 t461 t467 t469 true a0_0 a0_1 a0_2 a0_3 a0_4)) else (epactlaw17_RuleDays.j1 kj3 t461 t467 t469 true a0_0 a0_1 a0_2 a0_3 a0_4)) else (epactlaw17_RuleDays.j1 kj3 t461 t467 t469 true a0_0 a0_1 a0_2 a0_3 a0_4)) = some true := H
        have A30 := Aside0.mk A300
        clear A300
        have HC31 := Aside0.mk H
        clear H
        have hcz32_0 : wc.cell? ⟨gb460, 0, none⟩ = some (.int .i64 a0_0) := (blk_cell BK460.out 0).trans rfl
        have hcz32_1 : wc.cell? ⟨gb460, 1, none⟩ = some (.int .i64 a0_1) := (blk_cell BK460.out 1).trans rfl
        have hcz32_2 : wc.cell? ⟨gb460, 2, none⟩ = some (.int .i64 a0_2) := (blk_cell BK460.out 2).trans rfl
        have hcz32_3 : wc.cell? ⟨gb460, 3, none⟩ = some (.int .i64 a0_3) := (blk_cell BK460.out 3).trans rfl
        have hcz32_4 : wc.cell? ⟨gb460, 4, none⟩ = some (.int .i64 a0_4) := (blk_cell BK460.out 4).trans rfl
        have hfz32_0 := blk_frozen BK460.out 0
        have hfz32_1 := blk_frozen BK460.out 1
        have hfz32_2 := blk_frozen BK460.out 2
        have hfz32_3 := blk_frozen BK460.out 3
        have hfz32_4 := blk_frozen BK460.out 4
        go_upto_region 7 with (first | (go_at_call 32; (with_reducible refine (rule_Day.calls kj3 a0_0 a0_1 a0_2 a0_3 a0_4 a1 t463 t464 _ ?side733 A28.out).mono ?_); (case side733 => first | exact hG | exact hG.at1 HB | exact hG.drewN _ | (refine hG.below ?_; repeat (first | (with_reducible first | exact HB.out | apply below_alloc | apply pw_below_drewN | apply below_drew1 | refine below_set ?_ GE460.out) | exact HB.out))); rintro e w34 ⟨rfl, hb⟩; have n0_ := Aside0.mk (blk_below (g := gb460) (o := .cells #[.int .i64 a0_0, .int .i64 a0_1, .int .i64 a0_2, .int .i64 a0_3, .int .i64 a0_4] 42 (0, 0)) (by (with_reducible repeat (first | refine blk_drewN ?_ _ | refine blk_drew ?_ | refine blk_alloc ?_ _)); exact BK460.out) hb); have n1_ := Aside0.mk (below_step (by repeat (first | (with_reducible first | exact HB.out | apply below_alloc | apply pw_below_drewN | apply below_drew1 | refine below_set ?_ GE460.out) | exact HB.out)) hb); clear BK460; clear HB; have BK460 := n0_; have HB := n1_; clear n0_ n1_; (try clear hb); (try clear hb2); (try clear hk); (try clear hi)) | (go_at_call 36; (with_reducible refine (day_Date.calls kj3 t463 t465 t466 t467 t468 _ ?side735 A29.out).mono ?_); (case side735 => first | exact hG | exact hG.at1 HB | exact hG.drewN _ | (refine hG.below ?_; repeat (first | (with_reducible first | exact HB.out | apply below_alloc | apply pw_below_drewN | apply below_drew1 | refine below_set ?_ GE460.out) | exact HB.out))); rintro e w' ⟨rfl, ⟨nd, rfl⟩⟩; (try first | exact ⟨rfl, _, World.drewN_drewN _ _ _⟩ | exact ⟨rfl, _, Eq.trans (World.drewN_drewN _ _ _) (congrArg (World.drewN _) (Nat.add_assoc _ _ _))⟩); have hcz36_0 : w34.cell? ⟨gb460, 0, none⟩ = some (.int .i64 a0_0) := (blk_cell BK460.out 0).trans rfl; have hcz36_1 : w34.cell? ⟨gb460, 1, none⟩ = some (.int .i64 a0_1) := (blk_cell BK460.out 1).trans rfl; have hcz36_2 : w34.cell? ⟨gb460, 2, none⟩ = some (.int .i64 a0_2) := (blk_cell BK460.out 2).trans rfl; have hcz36_3 : w34.cell? ⟨gb460, 3, none⟩ = some (.int .i64 a0_3) := (blk_cell BK460.out 3).trans rfl; have hcz36_4 : w34.cell? ⟨gb460, 4, none⟩ = some (.int .i64 a0_4) := (blk_cell BK460.out 4).trans rfl; have hfz36_0 := blk_frozen BK460.out 0; have hfz36_1 := blk_frozen BK460.out 1; have hfz36_2 := blk_frozen BK460.out 2; have hfz36_3 := blk_frozen BK460.out 3; have hfz36_4 := blk_frozen BK460.out 4) | (go_at_call 37; (with_reducible refine (day_Last.calls a1 a0_1 t469 t470 _ ?side737 A30.out).mono ?_); (case side737 => first | exact hG | exact hG.at1 HB | exact hG.drewN _ | (refine hG.below ?_; repeat (first | (with_reducible first | exact HB.out | apply below_alloc | apply pw_below_drewN | apply below_drew1 | refine below_set ?_ GE460.out) | exact HB.out))); rintro e w' ⟨rfl, ⟨nd, rfl⟩⟩; (try first | exact ⟨rfl, _, World.drewN_drewN _ _ _⟩ | exact ⟨rfl, _, Eq.trans (World.drewN_drewN _ _ _) (congrArg (World.drewN _) (Nat.add_assoc _ _ _))⟩)))
        repeat (go_quiet (first | (go_at_call 32; (with_reducible refine (rule_Day.calls kj3 a0_0 a0_1 a0_2 a0_3 a0_4 a1 t463 t464 _ ?side733 A28.out).mono ?_); (case side733 => first | exact hG | exact hG.at1 HB | exact hG.drewN _ | (refine hG.below ?_; repeat (first | (with_reducible first | exact HB.out | apply below_alloc | apply pw_below_drewN | apply below_drew1 | refine below_set ?_ GE460.out) | exact HB.out))); rintro e w34 ⟨rfl, hb⟩; have n0_ := Aside0.mk (blk_below (g := gb460) (o := .cells #[.int .i64 a0_0, .int .i64 a0_1, .int .i64 a0_2, .int .i64 a0_3, .int .i64 a0_4] 42 (0, 0)) (by (with_reducible repeat (first | refine blk_drewN ?_ _ | refine blk_drew ?_ | refine blk_alloc ?_ _)); exact BK460.out) hb); have n1_ := Aside0.mk (below_step (by repeat (first | (with_reducible first | exact HB.out | apply below_alloc | apply pw_below_drewN | apply below_drew1 | refine below_set ?_ GE460.out) | exact HB.out)) hb); clear BK460; clear HB; have BK460 := n0_; have HB := n1_; clear n0_ n1_; (try clear hb); (try clear hb2); (try clear hk); (try clear hi)) | (go_at_call 36; (with_reducible refine (day_Date.calls kj3 t463 t465 t466 t467 t468 _ ?side735 A29.out).mono ?_); (case side735 => first | exact hG | exact hG.at1 HB | exact hG.drewN _ | (refine hG.below ?_; repeat (first | (with_reducible first | exact HB.out | apply below_alloc | apply pw_below_drewN | apply below_drew1 | refine below_set ?_ GE460.out) | exact HB.out))); rintro e w' ⟨rfl, ⟨nd, rfl⟩⟩; (try first | exact ⟨rfl, _, World.drewN_drewN _ _ _⟩ | exact ⟨rfl, _, Eq.trans (World.drewN_drewN _ _ _) (congrArg (World.drewN _) (Nat.add_assoc _ _ _))⟩); have hcz36_0 : w34.cell? ⟨gb460, 0, none⟩ = some (.int .i64 a0_0) := (blk_cell BK460.out 0).trans rfl; have hcz36_1 : w34.cell? ⟨gb460, 1, none⟩ = some (.int .i64 a0_1) := (blk_cell BK460.out 1).trans rfl; have hcz36_2 : w34.cell? ⟨gb460, 2, none⟩ = some (.int .i64 a0_2) := (blk_cell BK460.out 2).trans rfl; have hcz36_3 : w34.cell? ⟨gb460, 3, none⟩ = some (.int .i64 a0_3) := (blk_cell BK460.out 3).trans rfl; have hcz36_4 : w34.cell? ⟨gb460, 4, none⟩ = some (.int .i64 a0_4) := (blk_cell BK460.out 4).trans rfl; have hfz36_0 := blk_frozen BK460.out 0; have hfz36_1 := blk_frozen BK460.out 1; have hfz36_2 := blk_frozen BK460.out 2; have hfz36_3 := blk_frozen BK460.out 3; have hfz36_4 := blk_frozen BK460.out 4) | (go_at_call 37; (with_reducible refine (day_Last.calls a1 a0_1 t469 t470 _ ?side737 A30.out).mono ?_); (case side737 => first | exact hG | exact hG.at1 HB | exact hG.drewN _ | (refine hG.below ?_; repeat (first | (with_reducible first | exact HB.out | apply below_alloc | apply pw_below_drewN | apply below_drew1 | refine below_set ?_ GE460.out) | exact HB.out))); rintro e w' ⟨rfl, ⟨nd, rfl⟩⟩; (try first | exact ⟨rfl, _, World.drewN_drewN _ _ _⟩ | exact ⟨rfl, _, Eq.trans (World.drewN_drewN _ _ _) (congrArg (World.drewN _) (Nat.add_assoc _ _ _))⟩))); go_upto_region 7 with (first | (go_at_call 32; (with_reducible refine (rule_Day.calls kj3 a0_0 a0_1 a0_2 a0_3 a0_4 a1 t463 t464 _ ?side733 A28.out).mono ?_); (case side733 => first | exact hG | exact hG.at1 HB | exact hG.drewN _ | (refine hG.below ?_; repeat (first | (with_reducible first | exact HB.out | apply below_alloc | apply pw_below_drewN | apply below_drew1 | refine below_set ?_ GE460.out) | exact HB.out))); rintro e w34 ⟨rfl, hb⟩; have n0_ := Aside0.mk (blk_below (g := gb460) (o := .cells #[.int .i64 a0_0, .int .i64 a0_1, .int .i64 a0_2, .int .i64 a0_3, .int .i64 a0_4] 42 (0, 0)) (by (with_reducible repeat (first | refine blk_drewN ?_ _ | refine blk_drew ?_ | refine blk_alloc ?_ _)); exact BK460.out) hb); have n1_ := Aside0.mk (below_step (by repeat (first | (with_reducible first | exact HB.out | apply below_alloc | apply pw_below_drewN | apply below_drew1 | refine below_set ?_ GE460.out) | exact HB.out)) hb); clear BK460; clear HB; have BK460 := n0_; have HB := n1_; clear n0_ n1_; (try clear hb); (try clear hb2); (try clear hk); (try clear hi)) | (go_at_call 36; (with_reducible refine (day_Date.calls kj3 t463 t465 t466 t467 t468 _ ?side735 A29.out).mono ?_); (case side735 => first | exact hG | exact hG.at1 HB | exact hG.drewN _ | (refine hG.below ?_; repeat (first | (with_reducible first | exact HB.out | apply below_alloc | apply pw_below_drewN | apply below_drew1 | refine below_set ?_ GE460.out) | exact HB.out))); rintro e w' ⟨rfl, ⟨nd, rfl⟩⟩; (try first | exact ⟨rfl, _, World.drewN_drewN _ _ _⟩ | exact ⟨rfl, _, Eq.trans (World.drewN_drewN _ _ _) (congrArg (World.drewN _) (Nat.add_assoc _ _ _))⟩); have hcz36_0 : w34.cell? ⟨gb460, 0, none⟩ = some (.int .i64 a0_0) := (blk_cell BK460.out 0).trans rfl; have hcz36_1 : w34.cell? ⟨gb460, 1, none⟩ = some (.int .i64 a0_1) := (blk_cell BK460.out 1).trans rfl; have hcz36_2 : w34.cell? ⟨gb460, 2, none⟩ = some (.int .i64 a0_2) := (blk_cell BK460.out 2).trans rfl; have hcz36_3 : w34.cell? ⟨gb460, 3, none⟩ = some (.int .i64 a0_3) := (blk_cell BK460.out 3).trans rfl; have hcz36_4 : w34.cell? ⟨gb460, 4, none⟩ = some (.int .i64 a0_4) := (blk_cell BK460.out 4).trans rfl; have hfz36_0 := blk_frozen BK460.out 0; have hfz36_1 := blk_frozen BK460.out 1; have hfz36_2 := blk_frozen BK460.out 2; have hfz36_3 := blk_frozen BK460.out 3; have hfz36_4 := blk_frozen BK460.out 4) | (go_at_call 37; (with_reducible refine (day_Last.calls a1 a0_1 t469 t470 _ ?side737 A30.out).mono ?_); (case side737 => first | exact hG | exact hG.at1 HB | exact hG.drewN _ | (refine hG.below ?_; repeat (first | (with_reducible first | exact HB.out | apply below_alloc | apply pw_below_drewN | apply below_drew1 | refine below_set ?_ GE460.out) | exact HB.out))); rintro e w' ⟨rfl, ⟨nd, rfl⟩⟩; (try first | exact ⟨rfl, _, World.drewN_drewN _ _ _⟩ | exact ⟨rfl, _, Eq.trans (World.drewN_drewN _ _ _) (congrArg (World.drewN _) (Nat.add_assoc _ _ _))⟩))))
        (try simp only [Act.put, List.setIfInBounds_toArray, List.set_cons_zero, List.set_cons_succ])
        go_cut [75] (fun v75 wc => ∃ (kq : Nat) (x75_30 : Bool), v75 = .bool x75_30 ∧ Aside0 (epactlaw17_RuleDays.j1 kq t461 t467 t469 x75_30 a0_0 a0_1 a0_2 a0_3 a0_4 = some true) ∧ Aside0 (kq ≤ kj3) ∧ Aside0 (wc.heap[gb460]? = some (.cells #[.int .i64 a0_0, .int .i64 a0_1, .int .i64 a0_2, .int .i64 a0_3, .int .i64 a0_4] 42 (0, 0))) ∧ Aside0 (Below w.heap.size w wc))
        case first =>
          have H := HC31.out
          clear HC31
          by_cases c38 : t464 = true
          · subst c38
            have H1 : (if t468 = true then (if t465 = a1 then (if t466 = a0_1 then ((day_Week.f t463).bind fun t471 => (epactlaw17_RuleDays.j1 kj3 t461 t467 t469 (t471 != a0_3) a0_0 a0_1 a0_2 a0_3 a0_4)) else (epactlaw17_RuleDays.j1 kj3 t461 t467 t469 true a0_0 a0_1 a0_2 a0_3 a0_4)) else (epactlaw17_RuleDays.j1 kj3 t461 t467 t469 true a0_0 a0_1 a0_2 a0_3 a0_4)) else (epactlaw17_RuleDays.j1 kj3 t461 t467 t469 true a0_0 a0_1 a0_2 a0_3 a0_4)) = some true := by rw [if_pos rfl] at H; exact H
            clear H
            have H := H1
            clear H1
            by_cases c39 : t468 = true
            · subst c39
              have H1 : (if t465 = a1 then (if t466 = a0_1 then ((day_Week.f t463).bind fun t471 => (epactlaw17_RuleDays.j1 kj3 t461 t467 t469 (t471 != a0_3) a0_0 a0_1 a0_2 a0_3 a0_4)) else (epactlaw17_RuleDays.j1 kj3 t461 t467 t469 true a0_0 a0_1 a0_2 a0_3 a0_4)) else (epactlaw17_RuleDays.j1 kj3 t461 t467 t469 true a0_0 a0_1 a0_2 a0_3 a0_4)) = some true := by rw [if_pos rfl] at H; exact H
              clear H
              have H := H1
              clear H1
              by_cases c40 : t465 = a1
              · rw [if_pos c40] at H
                have c40b0 : (t465 == a1) = true := beq_iff_eq.mpr c40
                have c40b1 : (t465 != a1) = false := bne_eq_false_iff_eq.mpr c40
                clear c40
                (first | rw [c40b0] | (simp only [i64_w, i32_w]; rw [c40b0]) | skip)
                by_cases c41 : t466 = a0_1
                · rw [if_pos c41] at H
                  have c41b0 : (t466 == a0_1) = true := beq_iff_eq.mpr c41
                  have c41b1 : (t466 != a0_1) = false := bne_eq_false_iff_eq.mpr c41
                  clear c41
                  replace H := Option.bind_eq_some_iff.mp H
                  obtain ⟨t471, A420, H⟩ := H
                  replace H : (epactlaw17_RuleDays.j1 kj3 t461 t467 t469 (t471 != a0_3) a0_0 a0_1 a0_2 a0_3 a0_4) = some true := H
                  have A42 := Aside0.mk A420
                  clear A420
                  have H' := Aside0.mk H
                  clear H
                  have hcz43_0 : w34.cell? ⟨gb460, 0, none⟩ = some (.int .i64 a0_0) := (blk_cell BK460.out 0).trans rfl
                  have hcz43_1 : w34.cell? ⟨gb460, 1, none⟩ = some (.int .i64 a0_1) := (blk_cell BK460.out 1).trans rfl
                  have hcz43_2 : w34.cell? ⟨gb460, 2, none⟩ = some (.int .i64 a0_2) := (blk_cell BK460.out 2).trans rfl
                  have hcz43_3 : w34.cell? ⟨gb460, 3, none⟩ = some (.int .i64 a0_3) := (blk_cell BK460.out 3).trans rfl
                  have hcz43_4 : w34.cell? ⟨gb460, 4, none⟩ = some (.int .i64 a0_4) := (blk_cell BK460.out 4).trans rfl
                  have hfz43_0 := blk_frozen BK460.out 0
                  have hfz43_1 := blk_frozen BK460.out 1
                  have hfz43_2 := blk_frozen BK460.out 2
                  have hfz43_3 := blk_frozen BK460.out 3
                  have hfz43_4 := blk_frozen BK460.out 4
                  go_wp2_with (first | (go_at_call 38; (with_reducible refine (day_Week.calls t463 t471 _ ?side744 A42.out).mono ?_); (case side744 => first | exact hG | exact hG.at1 HB | exact hG.drewN _ | (refine hG.below ?_; repeat (first | (with_reducible first | exact HB.out | apply below_alloc | apply pw_below_drewN | apply below_drew1 | refine below_set ?_ GE460.out) | exact HB.out))); rintro e w' ⟨rfl, ⟨nd, rfl⟩⟩; (try first | exact ⟨rfl, _, World.drewN_drewN _ _ _⟩ | exact ⟨rfl, _, Eq.trans (World.drewN_drewN _ _ _) (congrArg (World.drewN _) (Nat.add_assoc _ _ _))⟩)))
                  repeat (go_quiet (first | (go_at_call 38; (with_reducible refine (day_Week.calls t463 t471 _ ?side744 A42.out).mono ?_); (case side744 => first | exact hG | exact hG.at1 HB | exact hG.drewN _ | (refine hG.below ?_; repeat (first | (with_reducible first | exact HB.out | apply below_alloc | apply pw_below_drewN | apply below_drew1 | refine below_set ?_ GE460.out) | exact HB.out))); rintro e w' ⟨rfl, ⟨nd, rfl⟩⟩; (try first | exact ⟨rfl, _, World.drewN_drewN _ _ _⟩ | exact ⟨rfl, _, Eq.trans (World.drewN_drewN _ _ _) (congrArg (World.drewN _) (Nat.add_assoc _ _ _))⟩))); try go_wp2_with (first | (go_at_call 38; (with_reducible refine (day_Week.calls t463 t471 _ ?side744 A42.out).mono ?_); (case side744 => first | exact hG | exact hG.at1 HB | exact hG.drewN _ | (refine hG.below ?_; repeat (first | (with_reducible first | exact HB.out | apply below_alloc | apply pw_below_drewN | apply below_drew1 | refine below_set ?_ GE460.out) | exact HB.out))); rintro e w' ⟨rfl, ⟨nd, rfl⟩⟩; (try first | exact ⟨rfl, _, World.drewN_drewN _ _ _⟩ | exact ⟨rfl, _, Eq.trans (World.drewN_drewN _ _ _) (congrArg (World.drewN _) (Nat.add_assoc _ _ _))⟩))))
                  go_meet
                  case rel => exact ⟨_, ((t471 != a0_3)), (by first | rfl | (simp; done) | (simp [*]; done) | (refine congrArg _ ?_; rw [Bool.eq_iff_iff]; simp; done)), H', ⟨by have := HJ3.out; first | omega | exact Nat.le_refl _⟩, ⟨by (with_reducible repeat (first | refine blk_drewN ?_ _ | refine blk_drew ?_ | refine blk_alloc ?_ _)); exact BK460.out⟩, ⟨by repeat (first | (with_reducible first | exact HB.out | apply below_alloc | apply pw_below_drewN | apply below_drew1 | refine below_set ?_ GE460.out) | exact HB.out)⟩⟩
                · rw [if_neg c41] at H
                  have c41b0 : (t466 == a0_1) = false := beq_eq_false_iff_ne.mpr c41
                  have c41b1 : (t466 != a0_1) = true := bne_iff_ne.mpr c41
                  have H' := Aside0.mk H
                  clear H
                  have hcz45_0 : w34.cell? ⟨gb460, 0, none⟩ = some (.int .i64 a0_0) := (blk_cell BK460.out 0).trans rfl
                  have hcz45_1 : w34.cell? ⟨gb460, 1, none⟩ = some (.int .i64 a0_1) := (blk_cell BK460.out 1).trans rfl
                  have hcz45_2 : w34.cell? ⟨gb460, 2, none⟩ = some (.int .i64 a0_2) := (blk_cell BK460.out 2).trans rfl
                  have hcz45_3 : w34.cell? ⟨gb460, 3, none⟩ = some (.int .i64 a0_3) := (blk_cell BK460.out 3).trans rfl
                  have hcz45_4 : w34.cell? ⟨gb460, 4, none⟩ = some (.int .i64 a0_4) := (blk_cell BK460.out 4).trans rfl
                  have hfz45_0 := blk_frozen BK460.out 0
                  have hfz45_1 := blk_frozen BK460.out 1
                  have hfz45_2 := blk_frozen BK460.out 2
                  have hfz45_3 := blk_frozen BK460.out 3
                  have hfz45_4 := blk_frozen BK460.out 4
                  go_wp2
                  repeat (go_quiet (fail); try go_wp2)
                  go_meet
                  case rel => exact ⟨_, (true), (by first | rfl | (simp; done) | (simp [*]; done) | (refine congrArg _ ?_; rw [Bool.eq_iff_iff]; simp; done)), H', ⟨by have := HJ3.out; first | omega | exact Nat.le_refl _⟩, ⟨by (with_reducible repeat (first | refine blk_drewN ?_ _ | refine blk_drew ?_ | refine blk_alloc ?_ _)); exact BK460.out⟩, ⟨by repeat (first | (with_reducible first | exact HB.out | apply below_alloc | apply pw_below_drewN | apply below_drew1 | refine below_set ?_ GE460.out) | exact HB.out)⟩⟩
              · rw [if_neg c40] at H
                have c40b0 : (t465 == a1) = false := beq_eq_false_iff_ne.mpr c40
                have c40b1 : (t465 != a1) = true := bne_iff_ne.mpr c40
                (first | rw [c40b0] | (simp only [i64_w, i32_w]; rw [c40b0]) | skip)
                have H' := Aside0.mk H
                clear H
                go_wp2
                repeat (go_quiet (fail); try go_wp2)
                go_meet
                case rel => exact ⟨_, (true), (by first | rfl | (simp; done) | (simp [*]; done) | (refine congrArg _ ?_; rw [Bool.eq_iff_iff]; simp; done)), H', ⟨by have := HJ3.out; first | omega | exact Nat.le_refl _⟩, ⟨by (with_reducible repeat (first | refine blk_drewN ?_ _ | refine blk_drew ?_ | refine blk_alloc ?_ _)); exact BK460.out⟩, ⟨by repeat (first | (with_reducible first | exact HB.out | apply below_alloc | apply pw_below_drewN | apply below_drew1 | refine below_set ?_ GE460.out) | exact HB.out)⟩⟩
            · replace c39 := Bool.eq_false_iff.mpr c39
              subst c39
              have H1 : (epactlaw17_RuleDays.j1 kj3 t461 t467 t469 true a0_0 a0_1 a0_2 a0_3 a0_4) = some true := by rw [if_neg (show ¬ (false = true) by decide)] at H; exact H
              clear H
              have H := H1
              clear H1
              have H' := Aside0.mk H
              clear H
              go_wp2
              repeat (go_quiet (fail); try go_wp2)
              go_meet
              case rel => exact ⟨_, (true), (by first | rfl | (simp; done) | (simp [*]; done) | (refine congrArg _ ?_; rw [Bool.eq_iff_iff]; simp; done)), H', ⟨by have := HJ3.out; first | omega | exact Nat.le_refl _⟩, ⟨by (with_reducible repeat (first | refine blk_drewN ?_ _ | refine blk_drew ?_ | refine blk_alloc ?_ _)); exact BK460.out⟩, ⟨by repeat (first | (with_reducible first | exact HB.out | apply below_alloc | apply pw_below_drewN | apply below_drew1 | refine below_set ?_ GE460.out) | exact HB.out)⟩⟩
          · replace c38 := Bool.eq_false_iff.mpr c38
            subst c38
            have H1 : (epactlaw17_RuleDays.j1 kj3 t461 t467 t469 true a0_0 a0_1 a0_2 a0_3 a0_4) = some true := by rw [if_neg (show ¬ (false = true) by decide)] at H; exact H
            clear H
            have H := H1
            clear H1
            have H' := Aside0.mk H
            clear H
            go_wp2
            repeat (go_quiet (fail); try go_wp2)
            go_meet
            case rel => exact ⟨_, (true), (by first | rfl | (simp; done) | (simp [*]; done) | (refine congrArg _ ?_; rw [Bool.eq_iff_iff]; simp; done)), H', ⟨by have := HJ3.out; first | omega | exact Nat.le_refl _⟩, ⟨by (with_reducible repeat (first | refine blk_drewN ?_ _ | refine blk_drew ?_ | refine blk_alloc ?_ _)); exact BK460.out⟩, ⟨by repeat (first | (with_reducible first | exact HB.out | apply below_alloc | apply pw_below_drewN | apply below_drew1 | refine below_set ?_ GE460.out) | exact HB.out)⟩⟩
        case rest =>
          clear HC31
          try clear c1
          try clear c2
          try clear p2
          try clear c3
          try clear c4
          try clear c9
          try clear c10
          try clear c10b0
          try clear c10b1
          try clear c11
          try clear c11b0
          try clear c27
          try clear c38
          try clear c39
          try clear c40
          try clear c40b0
          try clear c40b1
          try clear c41
          try clear c41b0
          try clear c41b1
          try clear hcz12_0
          try clear hcz12_1
          try clear hcz12_2
          try clear hcz12_3
          try clear hcz12_4
          try clear hcz15_0
          try clear hcz15_1
          try clear hcz15_2
          try clear hcz15_3
          try clear hcz15_4
          try clear hcz16_0
          try clear hcz16_1
          try clear hcz16_2
          try clear hcz16_3
          try clear hcz16_4
          try clear hcz19_0
          try clear hcz19_1
          try clear hcz19_2
          try clear hcz19_3
          try clear hcz19_4
          try clear hcz20_0
          try clear hcz20_1
          try clear hcz20_2
          try clear hcz20_3
          try clear hcz20_4
          try clear hcz23_0
          try clear hcz23_1
          try clear hcz23_2
          try clear hcz23_3
          try clear hcz23_4
          try clear hcz24_0
          try clear hcz24_1
          try clear hcz24_2
          try clear hcz24_3
          try clear hcz24_4
          try clear hcz32_0
          try clear hcz32_1
          try clear hcz32_2
          try clear hcz32_3
          try clear hcz32_4
          try clear hcz36_0
          try clear hcz36_1
          try clear hcz36_2
          try clear hcz36_3
          try clear hcz36_4
          try clear hcz43_0
          try clear hcz43_1
          try clear hcz43_2
          try clear hcz43_3
          try clear hcz43_4
          try clear hcz45_0
          try clear hcz45_1
          try clear hcz45_2
          try clear hcz45_3
          try clear hcz45_4
          try clear hfz12_0
          try clear hfz12_1
          try clear hfz12_2
          try clear hfz12_3
          try clear hfz12_4
          try clear hfz15_0
          try clear hfz15_1
          try clear hfz15_2
          try clear hfz15_3
          try clear hfz15_4
          try clear hfz16_0
          try clear hfz16_1
          try clear hfz16_2
          try clear hfz16_3
          try clear hfz16_4
          try clear hfz19_0
          try clear hfz19_1
          try clear hfz19_2
          try clear hfz19_3
          try clear hfz19_4
          try clear hfz20_0
          try clear hfz20_1
          try clear hfz20_2
          try clear hfz20_3
          try clear hfz20_4
          try clear hfz23_0
          try clear hfz23_1
          try clear hfz23_2
          try clear hfz23_3
          try clear hfz23_4
          try clear hfz24_0
          try clear hfz24_1
          try clear hfz24_2
          try clear hfz24_3
          try clear hfz24_4
          try clear hfz32_0
          try clear hfz32_1
          try clear hfz32_2
          try clear hfz32_3
          try clear hfz32_4
          try clear hfz36_0
          try clear hfz36_1
          try clear hfz36_2
          try clear hfz36_3
          try clear hfz36_4
          try clear hfz43_0
          try clear hfz43_1
          try clear hfz43_2
          try clear hfz43_3
          try clear hfz43_4
          try clear hfz45_0
          try clear hfz45_1
          try clear hfz45_2
          try clear hfz45_3
          try clear hfz45_4
          try clear p2
          obtain ⟨kq, x75_30, rfl, HA, HJ30, BK460, HB⟩ := hcut
          cases kq with
          | zero => exact absurd HA.out (by simp [epactlaw17_RuleDays.j1])
          | succ kj30 =>
            have H := HA.out
            clear HA
            simp only [epactlaw17_RuleDays.j1] at H
            by_cases c46 : x75_30 = true
            · subst c46
              have H1 : (some false) = some true := by rw [if_pos rfl] at H; exact H
              clear H
              have H := H1
              clear H1
              exact absurd H (by simp)
            · replace c46 := Bool.eq_false_iff.mpr c46
              subst c46
              have H1 : (if a0_2 = 5 then (if t461 = true then (some (decide ((wrap64 (t467 + 7)) > t469))) else (some false)) else (if t461 = true then (if t467 > (wrap64 (7 * (wrap64 (a0_2 - 1)))) then (some (decide (t467 ≤ (wrap64 (7 * a0_2))))) else (some false)) else (some false))) = some true := by rw [if_neg (show ¬ (false = true) by decide)] at H; exact H
              clear H
              have H := H1
              clear H1
              by_cases c47 : a0_2 = 5
              · rw [if_pos c47] at H
                have c47b0 : (a0_2 == 5) = true := beq_iff_eq.mpr c47
                have c47b1 : (a0_2 != 5) = false := bne_eq_false_iff_eq.mpr c47
                clear c47
                by_cases c48 : t461 = true
                · subst c48
                  have H1 : (some (decide ((wrap64 (t467 + 7)) > t469))) = some true := by rw [if_pos rfl] at H; exact H
                  clear H
                  have H := H1
                  clear H1
                  have hT := Option.some.inj H
                  clear H
                  try have hT2 : (decide ((wrap64 (t467 + 7)) > t469)) = true := by simpa using hT
                  have hcz49_0 : wc.cell? ⟨gb460, 0, none⟩ = some (.int .i64 a0_0) := (blk_cell BK460.out 0).trans rfl
                  have hcz49_1 : wc.cell? ⟨gb460, 1, none⟩ = some (.int .i64 a0_1) := (blk_cell BK460.out 1).trans rfl
                  have hcz49_2 : wc.cell? ⟨gb460, 2, none⟩ = some (.int .i64 a0_2) := (blk_cell BK460.out 2).trans rfl
                  have hcz49_3 : wc.cell? ⟨gb460, 3, none⟩ = some (.int .i64 a0_3) := (blk_cell BK460.out 3).trans rfl
                  have hcz49_4 : wc.cell? ⟨gb460, 4, none⟩ = some (.int .i64 a0_4) := (blk_cell BK460.out 4).trans rfl
                  have hfz49_0 := blk_frozen BK460.out 0
                  have hfz49_1 := blk_frozen BK460.out 1
                  have hfz49_2 := blk_frozen BK460.out 2
                  have hfz49_3 := blk_frozen BK460.out 3
                  have hfz49_4 := blk_frozen BK460.out 4
                  go_wp2
                  repeat (go_quiet (fail); try go_wp2)
                  go_ret
                  exact ⟨by first | rfl | (simp [errW_none, errW_some] <;> rfl) | (simp [*, errW_none, errW_some] <;> rfl), by repeat (first | (with_reducible first | exact HB.out | apply below_alloc | apply pw_below_drewN | apply below_drew1 | refine below_set ?_ GE460.out) | exact HB.out)⟩
                · replace c48 := Bool.eq_false_iff.mpr c48
                  subst c48
                  have H1 : (some false) = some true := by rw [if_neg (show ¬ (false = true) by decide)] at H; exact H
                  clear H
                  have H := H1
                  clear H1
                  exact absurd H (by simp)
              · rw [if_neg c47] at H
                have c47b0 : (a0_2 == 5) = false := beq_eq_false_iff_ne.mpr c47
                have c47b1 : (a0_2 != 5) = true := bne_iff_ne.mpr c47
                by_cases c50 : t461 = true
                · subst c50
                  have H1 : (if t467 > (wrap64 (7 * (wrap64 (a0_2 - 1)))) then (some (decide (t467 ≤ (wrap64 (7 * a0_2))))) else (some false)) = some true := by rw [if_pos rfl] at H; exact H
                  clear H
                  have H := H1
                  clear H1
                  by_cases c51 : t467 > (wrap64 (7 * (wrap64 (a0_2 - 1))))
                  · rw [if_pos c51] at H
                    have c51b0 : decide ((wrap64 (7 * (wrap64 (a0_2 - 1)))) < t467) = true := decide_eq_true c51
                    clear c51
                    have hT := Option.some.inj H
                    clear H
                    try have hT2 : (decide (t467 ≤ (wrap64 (7 * a0_2)))) = true := by simpa using hT
                    have hcz52_0 : wc.cell? ⟨gb460, 0, none⟩ = some (.int .i64 a0_0) := (blk_cell BK460.out 0).trans rfl
                    have hcz52_1 : wc.cell? ⟨gb460, 1, none⟩ = some (.int .i64 a0_1) := (blk_cell BK460.out 1).trans rfl
                    have hcz52_2 : wc.cell? ⟨gb460, 2, none⟩ = some (.int .i64 a0_2) := (blk_cell BK460.out 2).trans rfl
                    have hcz52_3 : wc.cell? ⟨gb460, 3, none⟩ = some (.int .i64 a0_3) := (blk_cell BK460.out 3).trans rfl
                    have hcz52_4 : wc.cell? ⟨gb460, 4, none⟩ = some (.int .i64 a0_4) := (blk_cell BK460.out 4).trans rfl
                    have hfz52_0 := blk_frozen BK460.out 0
                    have hfz52_1 := blk_frozen BK460.out 1
                    have hfz52_2 := blk_frozen BK460.out 2
                    have hfz52_3 := blk_frozen BK460.out 3
                    have hfz52_4 := blk_frozen BK460.out 4
                    go_wp2
                    repeat (go_quiet (fail); try go_wp2)
                    go_ret
                    exact ⟨by first | rfl | (simp [errW_none, errW_some] <;> rfl) | (simp [*, errW_none, errW_some] <;> rfl), by repeat (first | (with_reducible first | exact HB.out | apply below_alloc | apply pw_below_drewN | apply below_drew1 | refine below_set ?_ GE460.out) | exact HB.out)⟩
                  · rw [if_neg c51] at H
                    have c51b0 : decide ((wrap64 (7 * (wrap64 (a0_2 - 1)))) < t467) = false := decide_eq_false c51
                    clear c51
                    exact absurd H (by simp)
                · replace c50 := Bool.eq_false_iff.mpr c50
                  subst c50
                  have H1 : (some false) = some true := by rw [if_neg (show ¬ (false = true) by decide)] at H; exact H
                  clear H
                  have H := H1
                  clear H1
                  exact absurd H (by simp)

end Go.Proofs.YtghjemcbkackjaaDoor.P
