-- written by this project's program mkprint.py out of the translation; Lean checks it
import Derived.Test.YtghjemcbkackjaaDoorPx0
import Derived.Test.YtghjemcbkackjaaDoorPx4
import Derived.Test.YtghjemcbkackjaaDoorPx8
import Derived.Test.YtghjemcbkackjaaDoorPx9
import Derived.Test.YtghjemcbkackjaaDoorPx26
import Derived.Test.YtghjemcbkackjaaDoorPxS
namespace Go.Proofs.YtghjemcbkackjaaDoor.P
open Go.Proofs.YtghjemcbkackjaaDoor.F
open Go.RowKit Go.Proofs.YtghjemcbkackjaaDoorW.PrintWords Go.Proofs.YtghjemcbkackjaaDoorW.PrintLast Go.Proofs.YtghjemcbkackjaaDoorW.PrintMore
attribute [local go_sem] max2_int min2_int max_two min_two max_three min_three max_four min_four   -- for this text's walks alone
set_option linter.unusedVariables false
set_option linter.unusedSimpArgs false

/-! ### epactlaw17_RuleYears: function 12 -/
mutual
def epactlaw17_RuleYears.j0 : Nat → Int → Int → Bool → Bool → Int → Int → Int → Int → Int → Option (Bool)
  | 0, _, _, _, _, _, _, _, _, _ => none
  | k + 1, x1, x2, x7, x48, x473000, x473001, x473002, x473003, x473004 => if x48 = true then (some x7) else ((rule_Day.f k x473000 x473001 x473002 x473003 x473004 x1).bind fun bt475 => ((rule_Day.f k x473000 x473001 x473002 x473003 x473004 x2).bind fun bt477 => ((day_Date.f k bt475.1).bind fun bt479 => ((day_Date.f k bt477.1).bind fun bt483 => ((day_Number.f k x1 1 1).bind fun bt487 => ((rule_At.f k x473000 x473001 x473002 x473003 x473004 x1).bind fun bt489 => (if bt475.2 = true then (if bt477.2 = true then (epactlaw17_RuleYears.j1 k x1 x2 x7 bt475.1 bt479.1 bt479.2.1 bt479.2.2.1 bt483.1 bt483.2.1 bt483.2.2.1 bt487.1 (bt489.1 != (wrap64 ((wrap64 (86400 * bt475.1)) + x473004))) x473000 x473001 x473002 x473003 x473004) else (epactlaw17_RuleYears.j1 k x1 x2 x7 bt475.1 bt479.1 bt479.2.1 bt479.2.2.1 bt483.1 bt483.2.1 bt483.2.2.1 bt487.1 true x473000 x473001 x473002 x473003 x473004)) else (epactlaw17_RuleYears.j1 k x1 x2 x7 bt475.1 bt479.1 bt479.2.1 bt479.2.2.1 bt483.1 bt483.2.1 bt483.2.2.1 bt487.1 true x473000 x473001 x473002 x473003 x473004))))))))
def epactlaw17_RuleYears.j1 : Nat → Int → Int → Bool → Int → Int → Int → Int → Int → Int → Int → Int → Bool → Int → Int → Int → Int → Int → Option (Bool)
  | 0, _, _, _, _, _, _, _, _, _, _, _, _, _, _, _, _, _ => none
  | k + 1, x1, x2, x7, x8, x12, x13, x14, x16, x17, x18, x20, x101, x473000, x473001, x473002, x473003, x473004 => if x101 = true then (some false) else (if x473000 = 1 then (if x7 = true then (if x12 = x1 then (if x16 = x2 then (if x13 = x17 then (if x14 = x18 then (if x13 = 2 then (some (x14 != 29)) else (some true)) else (some false)) else (some false)) else (some false)) else (some false)) else (some false)) else (if x7 = true then (if x8 = (wrap64 (x20 + x473001)) then (if x12 = x1 then (some true) else (if x12 = (wrap64 (x1 + 1)) then (if x13 = 1 then (some (x14 == 1)) else (some false)) else (some false))) else (some false)) else (some false)))
end
def epactlaw17_RuleYears.f (k : Nat) (a0_0 : Int) (a0_1 : Int) (a0_2 : Int) (a0_3 : Int) (a0_4 : Int) (a1 : Int) (a2 : Int) : Option (Bool) := (epactlaw17_smallF.f).bind fun t473 => ((rule_Right.f a0_0 a0_1 a0_2 a0_3 a0_4).bind fun t474 => (if t474 = true then (if a0_0 = 0 then (epactlaw17_RuleYears.j0 k a1 a2 t473 true a0_0 a0_1 a0_2 a0_3 a0_4) else (if a1 < 1 then (epactlaw17_RuleYears.j0 k a1 a2 t473 true a0_0 a0_1 a0_2 a0_3 a0_4) else (if a1 > 9998 then (epactlaw17_RuleYears.j0 k a1 a2 t473 true a0_0 a0_1 a0_2 a0_3 a0_4) else (if a2 < 1 then (epactlaw17_RuleYears.j0 k a1 a2 t473 true a0_0 a0_1 a0_2 a0_3 a0_4) else (epactlaw17_RuleYears.j0 k a1 a2 t473 (decide (a2 > 9998)) a0_0 a0_1 a0_2 a0_3 a0_4))))) else (epactlaw17_RuleYears.j0 k a1 a2 t473 true a0_0 a0_1 a0_2 a0_3 a0_4)))
theorem epactlaw17_RuleYears.mono_l : ∀ k, (∀ y0 y1 y2 y3 y4 y5 y6 y7 y8, LeO (epactlaw17_RuleYears.j0 k y0 y1 y2 y3 y4 y5 y6 y7 y8) (epactlaw17_RuleYears.j0 (k + 1) y0 y1 y2 y3 y4 y5 y6 y7 y8)) ∧ (∀ y0 y1 y2 y3 y4 y5 y6 y7 y8 y9 y10 y11 y12 y13 y14 y15 y16, LeO (epactlaw17_RuleYears.j1 k y0 y1 y2 y3 y4 y5 y6 y7 y8 y9 y10 y11 y12 y13 y14 y15 y16) (epactlaw17_RuleYears.j1 (k + 1) y0 y1 y2 y3 y4 y5 y6 y7 y8 y9 y10 y11 y12 y13 y14 y15 y16))
  | 0 => ⟨fun _ _ _ _ _ _ _ _ _ r h => by simp [epactlaw17_RuleYears.j0] at h, fun _ _ _ _ _ _ _ _ _ _ _ _ _ _ _ _ _ r h => by simp [epactlaw17_RuleYears.j1] at h⟩
  | k + 1 => by
    obtain ⟨ih0, ih1⟩ := epactlaw17_RuleYears.mono_l k
    refine ⟨?_, ?_⟩
    · intro y0 y1 y2 y3 y4 y5 y6 y7 y8
      unfold epactlaw17_RuleYears.j0
      repeat' first
      | (with_reducible exact ih0 _ _ _ _ _ _ _ _ _)
      | (with_reducible exact ih1 _ _ _ _ _ _ _ _ _ _ _ _ _ _ _ _ _)
      | (with_reducible exact day_Date.mono _ _)
      | (with_reducible exact day_Number.mono _ _ _ _)
      | (with_reducible exact rule_At.mono _ _ _ _ _ _ _)
      | (with_reducible exact rule_Day.mono _ _ _ _ _ _ _)
      | (with_reducible exact LeO.refl _)
      | (with_reducible exact LeO.none _)
      | (with_reducible refine LeO.ite ?_ ?_)
      | (with_reducible refine LeO.bind ?_ (fun _ => ?_))
      | exact ih0 _ _ _ _ _ _ _ _ _
      | exact ih1 _ _ _ _ _ _ _ _ _ _ _ _ _ _ _ _ _
      | exact day_Date.mono _ _
      | exact day_Number.mono _ _ _ _
      | exact rule_At.mono _ _ _ _ _ _ _
      | exact rule_Day.mono _ _ _ _ _ _ _
      | exact LeO.none _
      | refine LeO.ite ?_ ?_
      | refine LeO.bind ?_ (fun _ => ?_)
    · intro y0 y1 y2 y3 y4 y5 y6 y7 y8 y9 y10 y11 y12 y13 y14 y15 y16
      unfold epactlaw17_RuleYears.j1
      repeat' first
      | (with_reducible exact ih0 _ _ _ _ _ _ _ _ _)
      | (with_reducible exact ih1 _ _ _ _ _ _ _ _ _ _ _ _ _ _ _ _ _)
      | (with_reducible exact day_Date.mono _ _)
      | (with_reducible exact day_Number.mono _ _ _ _)
      | (with_reducible exact rule_At.mono _ _ _ _ _ _ _)
      | (with_reducible exact rule_Day.mono _ _ _ _ _ _ _)
      | (with_reducible exact LeO.refl _)
      | (with_reducible exact LeO.none _)
      | (with_reducible refine LeO.ite ?_ ?_)
      | (with_reducible refine LeO.bind ?_ (fun _ => ?_))
      | exact ih0 _ _ _ _ _ _ _ _ _
      | exact ih1 _ _ _ _ _ _ _ _ _ _ _ _ _ _ _ _ _
      | exact day_Date.mono _ _
      | exact day_Number.mono _ _ _ _
      | exact rule_At.mono _ _ _ _ _ _ _
      | exact rule_Day.mono _ _ _ _ _ _ _
      | exact LeO.none _
      | refine LeO.ite ?_ ?_
      | refine LeO.bind ?_ (fun _ => ?_)
theorem epactlaw17_RuleYears.mono : ∀ a0 a1 a2 a3 a4 a5 a6 k, LeO (epactlaw17_RuleYears.f k a0 a1 a2 a3 a4 a5 a6) (epactlaw17_RuleYears.f (k + 1) a0 a1 a2 a3 a4 a5 a6) := by
  intro a0 a1 a2 a3 a4 a5 a6 k
  obtain ⟨ih0, ih1⟩ := epactlaw17_RuleYears.mono_l k
  unfold epactlaw17_RuleYears.f
  repeat' first
      | (with_reducible exact ih0 _ _ _ _ _ _ _ _ _)
      | (with_reducible exact ih1 _ _ _ _ _ _ _ _ _ _ _ _ _ _ _ _ _)
      | (with_reducible exact day_Date.mono _ _)
      | (with_reducible exact day_Number.mono _ _ _ _)
      | (with_reducible exact rule_At.mono _ _ _ _ _ _ _)
      | (with_reducible exact rule_Day.mono _ _ _ _ _ _ _)
      | (with_reducible exact LeO.refl _)
      | (with_reducible exact LeO.none _)
      | (with_reducible refine LeO.ite ?_ ?_)
      | (with_reducible refine LeO.bind ?_ (fun _ => ?_))
      | exact ih0 _ _ _ _ _ _ _ _ _
      | exact ih1 _ _ _ _ _ _ _ _ _ _ _ _ _ _ _ _ _
      | exact day_Date.mono _ _
      | exact day_Number.mono _ _ _ _
      | exact rule_At.mono _ _ _ _ _ _ _
      | exact rule_Day.mono _ _ _ _ _ _ _
      | exact LeO.none _
      | refine LeO.ite ?_ ?_
      | refine LeO.bind ?_ (fun _ => ?_)
set_option maxHeartbeats 8000000 in
set_option maxRecDepth 100000 in
theorem epactlaw17_RuleYears.calls (k : Nat) (a0_0 : Int) (a0_1 : Int) (a0_2 : Int) (a0_3 : Int) (a0_4 : Int) (a1 : Int) (a2 : Int) (w : World) (hG : GW w) (h : epactlaw17_RuleYears.f k a0_0 a0_1 a0_2 a0_3 a0_4 a1 a2 = some true) :
    Calls Tryd.prog 12 #[.agg #[.int .i64 a0_0, .int .i64 a0_1, .int .i64 a0_2, .int .i64 a0_3, .int .i64 a0_4], .int .i64 a1, .int .i64 a2] w fun e w' => e = .returned (.bool true) ∧ Below w.heap.size w w' := by
  have hu42 := Tryd.underlying42
  have HB := Aside0.mk (Below.refl w.heap.size w)
  have H : ((epactlaw17_smallF.f).bind fun t473 => ((rule_Right.f a0_0 a0_1 a0_2 a0_3 a0_4).bind fun t474 => (if t474 = true then (if a0_0 = 0 then (epactlaw17_RuleYears.j0 k a1 a2 t473 true a0_0 a0_1 a0_2 a0_3 a0_4) else (if a1 < 1 then (epactlaw17_RuleYears.j0 k a1 a2 t473 true a0_0 a0_1 a0_2 a0_3 a0_4) else (if a1 > 9998 then (epactlaw17_RuleYears.j0 k a1 a2 t473 true a0_0 a0_1 a0_2 a0_3 a0_4) else (if a2 < 1 then (epactlaw17_RuleYears.j0 k a1 a2 t473 true a0_0 a0_1 a0_2 a0_3 a0_4) else (epactlaw17_RuleYears.j0 k a1 a2 t473 (decide (a2 > 9998)) a0_0 a0_1 a0_2 a0_3 a0_4))))) else (epactlaw17_RuleYears.j0 k a1 a2 t473 true a0_0 a0_1 a0_2 a0_3 a0_4)))) = some true := h
  clear h
  replace H := Option.bind_eq_some_iff.mp H
  obtain ⟨t473, A40, H⟩ := H
  replace H : ((rule_Right.f a0_0 a0_1 a0_2 a0_3 a0_4).bind fun t474 => (if t474 = true then (if a0_0 = 0 then (epactlaw17_RuleYears.j0 k a1 a2 t473 true a0_0 a0_1 a0_2 a0_3 a0_4) else (if a1 < 1 then (epactlaw17_RuleYears.j0 k a1 a2 t473 true a0_0 a0_1 a0_2 a0_3 a0_4) else (if a1 > 9998 then (epactlaw17_RuleYears.j0 k a1 a2 t473 true a0_0 a0_1 a0_2 a0_3 a0_4) else (if a2 < 1 then (epactlaw17_RuleYears.j0 k a1 a2 t473 true a0_0 a0_1 a0_2 a0_3 a0_4) else (epactlaw17_RuleYears.j0 k a1 a2 t473 (decide (a2 > 9998)) a0_0 a0_1 a0_2 a0_3 a0_4))))) else (epactlaw17_RuleYears.j0 k a1 a2 t473 true a0_0 a0_1 a0_2 a0_3 a0_4))) = some true := H
  have A4 := Aside0.mk A40
  clear A40
  have HC5 := Aside0.mk H
  clear H
  go_enter Tryd.func12, Tryd.ntmps12
  go_upto_region 2 with (first | ((with_reducible refine gate_dst (N := 3) rfl ?_); refine box_event ?hg (N := 3) ?hd (cs := #[.int .i64 a0_0, .int .i64 a0_1, .int .i64 a0_2, .int .i64 a0_3, .int .i64 a0_4]) (t := 42) ?hr ?_; (case hd => rfl); (case hg => rfl); (case hr => first | (go_simp; done) | (go_simp; rfl)); intro gb472 hg w6 hbox hb; have n0_ := Aside0.mk (below_step (by repeat (first | (with_reducible first | exact HB.out | apply below_alloc | apply pw_below_drewN | apply below_drew1) | exact HB.out)) hb); have n1_ := Aside0.mk (hbox); have n2_ := Aside0.mk ((by rw [hg]; exact (below_size (by repeat (first | (with_reducible first | exact HB.out | apply below_alloc | apply pw_below_drewN | apply below_drew1) | exact HB.out))) : w.heap.size ≤ gb472)); have n3_ := Aside0.mk ((by rw [hg]; exact (below_size (by repeat (first | (with_reducible first | exact HB.out | apply below_alloc | apply pw_below_drewN | apply below_drew1) | exact HB.out))) : w.heap.size ≤ gb472)); clear HB; have HB := n0_; have BK472 := n1_; have GW472 := n2_; have GE472 := n3_; clear n0_ n1_ n2_ n3_; clear hb hbox hg) | ((with_reducible refine gate_callee (f := 21) rfl ?_); refine goesL_ (some 24) rfl rfl Tryd.func21 (by kernel_rfl) rfl #[] rfl (by (try simp only [List.map_toArray, List.map_cons, List.map_nil]); first | done | rfl | (simp only [List.length_drop, List.length_take]; rfl)) ?_; (with_reducible refine (epactlaw17_smallF.calls  t473 _ ?side707 A4.out).mono ?_); (case side707 => first | exact hG | exact hG.at1 HB | exact hG.drewN _ | (refine hG.below ?_; repeat (first | (with_reducible first | exact HB.out | apply below_alloc | apply pw_below_drewN | apply below_drew1 | refine below_set ?_ GE472.out) | exact HB.out))); rintro e w8 ⟨rfl, hb⟩; refine ⟨_, rfl, ?_⟩; have n0_ := Aside0.mk (blk_below (g := gb472) (o := .cells #[.int .i64 a0_0, .int .i64 a0_1, .int .i64 a0_2, .int .i64 a0_3, .int .i64 a0_4] 42 (0, 0)) (by (with_reducible repeat (first | refine blk_drewN ?_ _ | refine blk_drew ?_ | refine blk_alloc ?_ _)); exact BK472.out) hb); have n1_ := Aside0.mk (below_step (by repeat (first | (with_reducible first | exact HB.out | apply below_alloc | apply pw_below_drewN | apply below_drew1 | refine below_set ?_ GE472.out) | exact HB.out)) hb); clear BK472; clear HB; have BK472 := n0_; have HB := n1_; clear n0_ n1_; (try clear hb); (try clear hb2); (try clear hk); (try clear hi)))
  (try simp only [Act.put, List.setIfInBounds_toArray, List.set_cons_zero, List.set_cons_succ])
  go_cut [48] (fun v48 wc => ∃ (kq : Nat) (x48_4 : Bool), v48 = .bool x48_4 ∧ Aside0 (epactlaw17_RuleYears.j0 kq a1 a2 t473 x48_4 a0_0 a0_1 a0_2 a0_3 a0_4 = some true) ∧ Aside0 (kq ≤ k) ∧ Aside0 (wc.heap[gb472]? = some (.cells #[.int .i64 a0_0, .int .i64 a0_1, .int .i64 a0_2, .int .i64 a0_3, .int .i64 a0_4] 42 (0, 0))) ∧ Aside0 (Below w.heap.size w wc))
  case first =>
    have H := HC5.out
    clear HC5
    replace H := Option.bind_eq_some_iff.mp H
    obtain ⟨t474, A90, H⟩ := H
    replace H : (if t474 = true then (if a0_0 = 0 then (epactlaw17_RuleYears.j0 k a1 a2 t473 true a0_0 a0_1 a0_2 a0_3 a0_4) else (if a1 < 1 then (epactlaw17_RuleYears.j0 k a1 a2 t473 true a0_0 a0_1 a0_2 a0_3 a0_4) else (if a1 > 9998 then (epactlaw17_RuleYears.j0 k a1 a2 t473 true a0_0 a0_1 a0_2 a0_3 a0_4) else (if a2 < 1 then (epactlaw17_RuleYears.j0 k a1 a2 t473 true a0_0 a0_1 a0_2 a0_3 a0_4) else (epactlaw17_RuleYears.j0 k a1 a2 t473 (decide (a2 > 9998)) a0_0 a0_1 a0_2 a0_3 a0_4))))) else (epactlaw17_RuleYears.j0 k a1 a2 t473 true a0_0 a0_1 a0_2 a0_3 a0_4)) = some true := H
    have A9 := Aside0.mk A90
    clear A90
    by_cases c10 : t474 = true
    · subst c10
      have H1 : (if a0_0 = 0 then (epactlaw17_RuleYears.j0 k a1 a2 t473 true a0_0 a0_1 a0_2 a0_3 a0_4) else (if a1 < 1 then (epactlaw17_RuleYears.j0 k a1 a2 t473 true a0_0 a0_1 a0_2 a0_3 a0_4) else (if a1 > 9998 then (epactlaw17_RuleYears.j0 k a1 a2 t473 true a0_0 a0_1 a0_2 a0_3 a0_4) else (if a2 < 1 then (epactlaw17_RuleYears.j0 k a1 a2 t473 true a0_0 a0_1 a0_2 a0_3 a0_4) else (epactlaw17_RuleYears.j0 k a1 a2 t473 (decide (a2 > 9998)) a0_0 a0_1 a0_2 a0_3 a0_4))))) = some true := by rw [if_pos rfl] at H; exact H
      clear H
      have H := H1
      clear H1
      by_cases c11 : a0_0 = 0
      · rw [if_pos c11] at H
        have c11b0 : (a0_0 == 0) = true := beq_iff_eq.mpr c11
        have c11b1 : (a0_0 != 0) = false := bne_eq_false_iff_eq.mpr c11
        clear c11
        (first | rw [c11b0] | (simp only [i64_w, i32_w]; rw [c11b0]) | skip)
        have H' := Aside0.mk H
        clear H
        have hcz12_0 : w8.cell? ⟨gb472, 0, none⟩ = some (.int .i64 a0_0) := (blk_cell BK472.out 0).trans rfl
        have hcz12_1 : w8.cell? ⟨gb472, 1, none⟩ = some (.int .i64 a0_1) := (blk_cell BK472.out 1).trans rfl
        have hcz12_2 : w8.cell? ⟨gb472, 2, none⟩ = some (.int .i64 a0_2) := (blk_cell BK472.out 2).trans rfl
        have hcz12_3 : w8.cell? ⟨gb472, 3, none⟩ = some (.int .i64 a0_3) := (blk_cell BK472.out 3).trans rfl
        have hcz12_4 : w8.cell? ⟨gb472, 4, none⟩ = some (.int .i64 a0_4) := (blk_cell BK472.out 4).trans rfl
        have hfz12_0 := blk_frozen BK472.out 0
        have hfz12_1 := blk_frozen BK472.out 1
        have hfz12_2 := blk_frozen BK472.out 2
        have hfz12_3 := blk_frozen BK472.out 3
        have hfz12_4 := blk_frozen BK472.out 4
        go_wp2_with (first | ((with_reducible refine gate_callee (f := 34) rfl ?_); refine goesL_ (some 26) rfl rfl Tryd.func34 (by kernel_rfl) rfl #[.agg #[.int .i64 a0_0, .int .i64 a0_1, .int .i64 a0_2, .int .i64 a0_3, .int .i64 a0_4]] rfl (by (try simp only [List.map_toArray, List.map_cons, List.map_nil]); first | done | rfl | (simp only [List.length_drop, List.length_take]; rfl)) ?_; (with_reducible refine (rule_Right.calls a0_0 a0_1 a0_2 a0_3 a0_4 true _ ?side713 A9.out).mono ?_); (case side713 => first | exact hG | exact hG.at1 HB | exact hG.drewN _ | (refine hG.below ?_; repeat (first | (with_reducible first | exact HB.out | apply below_alloc | apply pw_below_drewN | apply below_drew1 | refine below_set ?_ GE472.out) | exact HB.out))); rintro e w14 ⟨rfl, hb⟩; refine ⟨_, rfl, ?_⟩; have n0_ := Aside0.mk (blk_below (g := gb472) (o := .cells #[.int .i64 a0_0, .int .i64 a0_1, .int .i64 a0_2, .int .i64 a0_3, .int .i64 a0_4] 42 (0, 0)) (by (with_reducible repeat (first | refine blk_drewN ?_ _ | refine blk_drew ?_ | refine blk_alloc ?_ _)); exact BK472.out) hb); have n1_ := Aside0.mk (below_step (by repeat (first | (with_reducible first | exact HB.out | apply below_alloc | apply pw_below_drewN | apply below_drew1 | refine below_set ?_ GE472.out) | exact HB.out)) hb); clear BK472; clear HB; have BK472 := n0_; have HB := n1_; clear n0_ n1_; (try clear hb); (try clear hb2); (try clear hk); (try clear hi); have hcz15_0 : w14.cell? ⟨gb472, 0, none⟩ = some (.int .i64 a0_0) := (blk_cell BK472.out 0).trans rfl; have hcz15_1 : w14.cell? ⟨gb472, 1, none⟩ = some (.int .i64 a0_1) := (blk_cell BK472.out 1).trans rfl; have hcz15_2 : w14.cell? ⟨gb472, 2, none⟩ = some (.int .i64 a0_2) := (blk_cell BK472.out 2).trans rfl; have hcz15_3 : w14.cell? ⟨gb472, 3, none⟩ = some (.int .i64 a0_3) := (blk_cell BK472.out 3).trans rfl; have hcz15_4 : w14.cell? ⟨gb472, 4, none⟩ = some (.int .i64 a0_4) := (blk_cell BK472.out 4).trans rfl; have hfz15_0 := blk_frozen BK472.out 0; have hfz15_1 := blk_frozen BK472.out 1; have hfz15_2 := blk_frozen BK472.out 2; have hfz15_3 := blk_frozen BK472.out 3; have hfz15_4 := blk_frozen BK472.out 4))
        go_meet
        case rel => exact ⟨_, (true), (by first | rfl | (simp; done) | (simp [*]; done) | (refine congrArg _ ?_; rw [Bool.eq_iff_iff]; simp; done)), H', ⟨by first | omega | exact Nat.le_refl _⟩, ⟨by (with_reducible repeat (first | refine blk_drewN ?_ _ | refine blk_drew ?_ | refine blk_alloc ?_ _)); exact BK472.out⟩, ⟨by repeat (first | (with_reducible first | exact HB.out | apply below_alloc | apply pw_below_drewN | apply below_drew1 | refine below_set ?_ GE472.out) | exact HB.out)⟩⟩
      · rw [if_neg c11] at H
        have c11b0 : (a0_0 == 0) = false := beq_eq_false_iff_ne.mpr c11
        have c11b1 : (a0_0 != 0) = true := bne_iff_ne.mpr c11
        (first | rw [c11b0] | (simp only [i64_w, i32_w]; rw [c11b0]) | skip)
        by_cases c16 : a1 < 1
        · rw [if_pos c16] at H
          have c16b0 : decide (a1 < 1) = true := decide_eq_true c16
          clear c16
          have H' := Aside0.mk H
          clear H
          have hcz17_0 : w8.cell? ⟨gb472, 0, none⟩ = some (.int .i64 a0_0) := (blk_cell BK472.out 0).trans rfl
          have hcz17_1 : w8.cell? ⟨gb472, 1, none⟩ = some (.int .i64 a0_1) := (blk_cell BK472.out 1).trans rfl
          have hcz17_2 : w8.cell? ⟨gb472, 2, none⟩ = some (.int .i64 a0_2) := (blk_cell BK472.out 2).trans rfl
          have hcz17_3 : w8.cell? ⟨gb472, 3, none⟩ = some (.int .i64 a0_3) := (blk_cell BK472.out 3).trans rfl
          have hcz17_4 : w8.cell? ⟨gb472, 4, none⟩ = some (.int .i64 a0_4) := (blk_cell BK472.out 4).trans rfl
          have hfz17_0 := blk_frozen BK472.out 0
          have hfz17_1 := blk_frozen BK472.out 1
          have hfz17_2 := blk_frozen BK472.out 2
          have hfz17_3 := blk_frozen BK472.out 3
          have hfz17_4 := blk_frozen BK472.out 4
          go_wp2_with (first | ((with_reducible refine gate_callee (f := 34) rfl ?_); refine goesL_ (some 26) rfl rfl Tryd.func34 (by kernel_rfl) rfl #[.agg #[.int .i64 a0_0, .int .i64 a0_1, .int .i64 a0_2, .int .i64 a0_3, .int .i64 a0_4]] rfl (by (try simp only [List.map_toArray, List.map_cons, List.map_nil]); first | done | rfl | (simp only [List.length_drop, List.length_take]; rfl)) ?_; (with_reducible refine (rule_Right.calls a0_0 a0_1 a0_2 a0_3 a0_4 true _ ?side718 A9.out).mono ?_); (case side718 => first | exact hG | exact hG.at1 HB | exact hG.drewN _ | (refine hG.below ?_; repeat (first | (with_reducible first | exact HB.out | apply below_alloc | apply pw_below_drewN | apply below_drew1 | refine below_set ?_ GE472.out) | exact HB.out))); rintro e w19 ⟨rfl, hb⟩; refine ⟨_, rfl, ?_⟩; have n0_ := Aside0.mk (blk_below (g := gb472) (o := .cells #[.int .i64 a0_0, .int .i64 a0_1, .int .i64 a0_2, .int .i64 a0_3, .int .i64 a0_4] 42 (0, 0)) (by (with_reducible repeat (first | refine blk_drewN ?_ _ | refine blk_drew ?_ | refine blk_alloc ?_ _)); exact BK472.out) hb); have n1_ := Aside0.mk (below_step (by repeat (first | (with_reducible first | exact HB.out | apply below_alloc | apply pw_below_drewN | apply below_drew1 | refine below_set ?_ GE472.out) | exact HB.out)) hb); clear BK472; clear HB; have BK472 := n0_; have HB := n1_; clear n0_ n1_; (try clear hb); (try clear hb2); (try clear hk); (try clear hi); have hcz20_0 : w19.cell? ⟨gb472, 0, none⟩ = some (.int .i64 a0_0) := (blk_cell BK472.out 0).trans rfl; have hcz20_1 : w19.cell? ⟨gb472, 1, none⟩ = some (.int .i64 a0_1) := (blk_cell BK472.out 1).trans rfl; have hcz20_2 : w19.cell? ⟨gb472, 2, none⟩ = some (.int .i64 a0_2) := (blk_cell BK472.out 2).trans rfl; have hcz20_3 : w19.cell? ⟨gb472, 3, none⟩ = some (.int .i64 a0_3) := (blk_cell BK472.out 3).trans rfl; have hcz20_4 : w19.cell? ⟨gb472, 4, none⟩ = some (.int .i64 a0_4) := (blk_cell BK472.out 4).trans rfl; have hfz20_0 := blk_frozen BK472.out 0; have hfz20_1 := blk_frozen BK472.out 1; have hfz20_2 := blk_frozen BK472.out 2; have hfz20_3 := blk_frozen BK472.out 3; have hfz20_4 := blk_frozen BK472.out 4))
          go_meet
          case rel => exact ⟨_, (true), (by first | rfl | (simp; done) | (simp [*]; done) | (refine congrArg _ ?_; rw [Bool.eq_iff_iff]; simp; done)), H', ⟨by first | omega | exact Nat.le_refl _⟩, ⟨by (with_reducible repeat (first | refine blk_drewN ?_ _ | refine blk_drew ?_ | refine blk_alloc ?_ _)); exact BK472.out⟩, ⟨by repeat (first | (with_reducible first | exact HB.out | apply below_alloc | apply pw_below_drewN | apply below_drew1 | refine below_set ?_ GE472.out) | exact HB.out)⟩⟩
        · rw [if_neg c16] at H
          have c16b0 : decide (a1 < 1) = false := decide_eq_false c16
          clear c16
          by_cases c21 : a1 > 9998
          · rw [if_pos c21] at H
            have c21b0 : decide (9998 < a1) = true := decide_eq_true c21
            clear c21
            have H' := Aside0.mk H
            clear H
            have hcz22_0 : w8.cell? ⟨gb472, 0, none⟩ = some (.int .i64 a0_0) := (blk_cell BK472.out 0).trans rfl
            have hcz22_1 : w8.cell? ⟨gb472, 1, none⟩ = some (.int .i64 a0_1) := (blk_cell BK472.out 1).trans rfl
            have hcz22_2 : w8.cell? ⟨gb472, 2, none⟩ = some (.int .i64 a0_2) := (blk_cell BK472.out 2).trans rfl
            have hcz22_3 : w8.cell? ⟨gb472, 3, none⟩ = some (.int .i64 a0_3) := (blk_cell BK472.out 3).trans rfl
            have hcz22_4 : w8.cell? ⟨gb472, 4, none⟩ = some (.int .i64 a0_4) := (blk_cell BK472.out 4).trans rfl
            have hfz22_0 := blk_frozen BK472.out 0
            have hfz22_1 := blk_frozen BK472.out 1
            have hfz22_2 := blk_frozen BK472.out 2
            have hfz22_3 := blk_frozen BK472.out 3
            have hfz22_4 := blk_frozen BK472.out 4
            go_wp2_with (first | ((with_reducible refine gate_callee (f := 34) rfl ?_); refine goesL_ (some 26) rfl rfl Tryd.func34 (by kernel_rfl) rfl #[.agg #[.int .i64 a0_0, .int .i64 a0_1, .int .i64 a0_2, .int .i64 a0_3, .int .i64 a0_4]] rfl (by (try simp only [List.map_toArray, List.map_cons, List.map_nil]); first | done | rfl | (simp only [List.length_drop, List.length_take]; rfl)) ?_; (with_reducible refine (rule_Right.calls a0_0 a0_1 a0_2 a0_3 a0_4 true _ ?side723 A9.out).mono ?_); (case side723 => first | exact hG | exact hG.at1 HB | exact hG.drewN _ | (refine hG.below ?_; repeat (first | (with_reducible first | exact HB.out | apply below_alloc | apply pw_below_drewN | apply below_drew1 | refine below_set ?_ GE472.out) | exact HB.out))); rintro e w24 ⟨rfl, hb⟩; refine ⟨_, rfl, ?_⟩; have n0_ := Aside0.mk (blk_below (g := gb472) (o := .cells #[.int .i64 a0_0, .int .i64 a0_1, .int .i64 a0_2, .int .i64 a0_3, .int .i64 a0_4] 42 (0, 0)) (by (with_reducible repeat (first | refine blk_drewN ?_ _ | refine blk_drew ?_ | refine blk_alloc ?_ _)); exact BK472.out) hb); have n1_ := Aside0.mk (below_step (by repeat (first | (with_reducible first | exact HB.out | apply below_alloc | apply pw_below_drewN | apply below_drew1 | refine below_set ?_ GE472.out) | exact HB.out)) hb); clear BK472; clear HB; have BK472 := n0_; have HB := n1_; clear n0_ n1_; (try clear hb); (try clear hb2); (try clear hk); (try clear hi); have hcz25_0 : w24.cell? ⟨gb472, 0, none⟩ = some (.int .i64 a0_0) := (blk_cell BK472.out 0).trans rfl; have hcz25_1 : w24.cell? ⟨gb472, 1, none⟩ = some (.int .i64 a0_1) := (blk_cell BK472.out 1).trans rfl; have hcz25_2 : w24.cell? ⟨gb472, 2, none⟩ = some (.int .i64 a0_2) := (blk_cell BK472.out 2).trans rfl; have hcz25_3 : w24.cell? ⟨gb472, 3, none⟩ = some (.int .i64 a0_3) := (blk_cell BK472.out 3).trans rfl; have hcz25_4 : w24.cell? ⟨gb472, 4, none⟩ = some (.int .i64 a0_4) := (blk_cell BK472.out 4).trans rfl; have hfz25_0 := blk_frozen BK472.out 0; have hfz25_1 := blk_frozen BK472.out 1; have hfz25_2 := blk_frozen BK472.out 2; have hfz25_3 := blk_frozen BK472.out 3; have hfz25_4 := blk_frozen BK472.out 4))
            go_meet
            case rel => exact ⟨_, (true), (by first | rfl | (simp; done) | (simp [*]; done) | (refine congrArg _ ?_; rw [Bool.eq_iff_iff]; simp; done)), H', ⟨by first | omega | exact Nat.le_refl _⟩, ⟨by (with_reducible repeat (first | refine blk_drewN ?_ _ | refine blk_drew ?_ | refine blk_alloc ?_ _)); exact BK472.out⟩, ⟨by repeat (first | (with_reducible first | exact HB.out | apply below_alloc | apply pw_below_drewN | apply below_drew1 | refine below_set ?_ GE472.out) | exact HB.out)⟩⟩
          · rw [if_neg c21] at H
            have c21b0 : decide (9998 < a1) = false := decide_eq_false c21
            clear c21
            by_cases c26 : a2 < 1
            · rw [if_pos c26] at H
              have c26b0 : decide (a2 < 1) = true := decide_eq_true c26
              clear c26
              have H' := Aside0.mk H
              clear H
              have hcz27_0 : w8.cell? ⟨gb472, 0, none⟩ = some (.int .i64 a0_0) := (blk_cell BK472.out 0).trans rfl
              have hcz27_1 : w8.cell? ⟨gb472, 1, none⟩ = some (.int .i64 a0_1) := (blk_cell BK472.out 1).trans rfl
              have hcz27_2 : w8.cell? ⟨gb472, 2, none⟩ = some (.int .i64 a0_2) := (blk_cell BK472.out 2).trans rfl
              have hcz27_3 : w8.cell? ⟨gb472, 3, none⟩ = some (.int .i64 a0_3) := (blk_cell BK472.out 3).trans rfl
              have hcz27_4 : w8.cell? ⟨gb472, 4, none⟩ = some (.int .i64 a0_4) := (blk_cell BK472.out 4).trans rfl
              have hfz27_0 := blk_frozen BK472.out 0
              have hfz27_1 := blk_frozen BK472.out 1
              have hfz27_2 := blk_frozen BK472.out 2
              have hfz27_3 := blk_frozen BK472.out 3
              have hfz27_4 := blk_frozen BK472.out 4
              go_wp2_with (first | ((with_reducible refine gate_callee (f := 34) rfl ?_); refine goesL_ (some 26) rfl rfl Tryd.func34 (by kernel_rfl) rfl #[.agg #[.int .i64 a0_0, .int .i64 a0_1, .int .i64 a0_2, .int .i64 a0_3, .int .i64 a0_4]] rfl (by (try simp only [List.map_toArray, List.map_cons, List.map_nil]); first | done | rfl | (simp only [List.length_drop, List.length_take]; rfl)) ?_; (with_reducible refine (rule_Right.calls a0_0 a0_1 a0_2 a0_3 a0_4 true _ ?side728 A9.out).mono ?_); (case side728 => first | exact hG | exact hG.at1 HB | exact hG.drewN _ | (refine hG.below ?_; repeat (first | (with_reducible first | exact HB.out | apply below_alloc | apply pw_below_drewN | apply below_drew1 | refine below_set ?_ GE472.out) | exact HB.out))); rintro e w29 ⟨rfl, hb⟩; refine ⟨_, rfl, ?_⟩; have n0_ := Aside0.mk (blk_below (g := gb472) (o := .cells #[.int .i64 a0_0, .int .i64 a0_1, .int .i64 a0_2, .int .i64 a0_3, .int .i64 a0_4] 42 (0, 0)) (by (with_reducible repeat (first | refine blk_drewN ?_ _ | refine blk_drew ?_ | refine blk_alloc ?_ _)); exact BK472.out) hb); have n1_ := Aside0.mk (below_step (by repeat (first | (with_reducible first | exact HB.out | apply below_alloc | apply pw_below_drewN | apply below_drew1 | refine below_set ?_ GE472.out) | exact HB.out)) hb); clear BK472; clear HB; have BK472 := n0_; have HB := n1_; clear n0_ n1_; (try clear hb); (try clear hb2); (try clear hk); (try clear hi); have hcz30_0 : w29.cell? ⟨gb472, 0, none⟩ = some (.int .i64 a0_0) := (blk_cell BK472.out 0).trans rfl; have hcz30_1 : w29.cell? ⟨gb472, 1, none⟩ = some (.int .i64 a0_1) := (blk_cell BK472.out 1).trans rfl; have hcz30_2 : w29.cell? ⟨gb472, 2, none⟩ = some (.int .i64 a0_2) := (blk_cell BK472.out 2).trans rfl; have hcz30_3 : w29.cell? ⟨gb472, 3, none⟩ = some (.int .i64 a0_3) := (blk_cell BK472.out 3).trans rfl; have hcz30_4 : w29.cell? ⟨gb472, 4, none⟩ = some (.int .i64 a0_4) := (blk_cell BK472.out 4).trans rfl; have hfz30_0 := blk_frozen BK472.out 0; have hfz30_1 := blk_frozen BK472.out 1; have hfz30_2 := blk_frozen BK472.out 2; have hfz30_3 := blk_frozen BK472.out 3; have hfz30_4 := blk_frozen BK472.out 4))
              go_meet
              case rel => exact ⟨_, (true), (by first | rfl | (simp; done) | (simp [*]; done) | (refine congrArg _ ?_; rw [Bool.eq_iff_iff]; simp; done)), H', ⟨by first | omega | exact Nat.le_refl _⟩, ⟨by (with_reducible repeat (first | refine blk_drewN ?_ _ | refine blk_drew ?_ | refine blk_alloc ?_ _)); exact BK472.out⟩, ⟨by repeat (first | (with_reducible first | exact HB.out | apply below_alloc | apply pw_below_drewN | apply below_drew1 | refine below_set ?_ GE472.out) | exact HB.out)⟩⟩
            · rw [if_neg c26] at H
              have c26b0 : decide (a2 < 1) = false := decide_eq_false c26
              clear c26
              have H' := Aside0.mk H
              clear H
              have hcz31_0 : w8.cell? ⟨gb472, 0, none⟩ = some (.int .i64 a0_0) := (blk_cell BK472.out 0).trans rfl
              have hcz31_1 : w8.cell? ⟨gb472, 1, none⟩ = some (.int .i64 a0_1) := (blk_cell BK472.out 1).trans rfl
              have hcz31_2 : w8.cell? ⟨gb472, 2, none⟩ = some (.int .i64 a0_2) := (blk_cell BK472.out 2).trans rfl
              have hcz31_3 : w8.cell? ⟨gb472, 3, none⟩ = some (.int .i64 a0_3) := (blk_cell BK472.out 3).trans rfl
              have hcz31_4 : w8.cell? ⟨gb472, 4, none⟩ = some (.int .i64 a0_4) := (blk_cell BK472.out 4).trans rfl
              have hfz31_0 := blk_frozen BK472.out 0
              have hfz31_1 := blk_frozen BK472.out 1
              have hfz31_2 := blk_frozen BK472.out 2
              have hfz31_3 := blk_frozen BK472.out 3
              have hfz31_4 := blk_frozen BK472.out 4
              go_wp2_with (first | ((with_reducible refine gate_callee (f := 34) rfl ?_); refine goesL_ (some 26) rfl rfl Tryd.func34 (by kernel_rfl) rfl #[.agg #[.int .i64 a0_0, .int .i64 a0_1, .int .i64 a0_2, .int .i64 a0_3, .int .i64 a0_4]] rfl (by (try simp only [List.map_toArray, List.map_cons, List.map_nil]); first | done | rfl | (simp only [List.length_drop, List.length_take]; rfl)) ?_; (with_reducible refine (rule_Right.calls a0_0 a0_1 a0_2 a0_3 a0_4 true _ ?side732 A9.out).mono ?_); (case side732 => first | exact hG | exact hG.at1 HB | exact hG.drewN _ | (refine hG.below ?_; repeat (first | (with_reducible first | exact HB.out | apply below_alloc | apply pw_below_drewN | apply below_drew1 | refine below_set ?_ GE472.out) | exact HB.out))); rintro e w33 ⟨rfl, hb⟩; refine ⟨_, rfl, ?_⟩; have n0_ := Aside0.mk (blk_below (g := gb472) (o := .cells #[.int .i64 a0_0, .int .i64 a0_1, .int .i64 a0_2, .int .i64 a0_3, .int .i64 a0_4] 42 (0, 0)) (by (with_reducible repeat (first | refine blk_drewN ?_ _ | refine blk_drew ?_ | refine blk_alloc ?_ _)); exact BK472.out) hb); have n1_ := Aside0.mk (below_step (by repeat (first | (with_reducible first | exact HB.out | apply below_alloc | apply pw_below_drewN | apply below_drew1 | refine below_set ?_ GE472.out) | exact HB.out)) hb); clear BK472; clear HB; have BK472 := n0_; have HB := n1_; clear n0_ n1_; (try clear hb); (try clear hb2); (try clear hk); (try clear hi); have hcz34_0 : w33.cell? ⟨gb472, 0, none⟩ = some (.int .i64 a0_0) := (blk_cell BK472.out 0).trans rfl; have hcz34_1 : w33.cell? ⟨gb472, 1, none⟩ = some (.int .i64 a0_1) := (blk_cell BK472.out 1).trans rfl; have hcz34_2 : w33.cell? ⟨gb472, 2, none⟩ = some (.int .i64 a0_2) := (blk_cell BK472.out 2).trans rfl; have hcz34_3 : w33.cell? ⟨gb472, 3, none⟩ = some (.int .i64 a0_3) := (blk_cell BK472.out 3).trans rfl; have hcz34_4 : w33.cell? ⟨gb472, 4, none⟩ = some (.int .i64 a0_4) := (blk_cell BK472.out 4).trans rfl; have hfz34_0 := blk_frozen BK472.out 0; have hfz34_1 := blk_frozen BK472.out 1; have hfz34_2 := blk_frozen BK472.out 2; have hfz34_3 := blk_frozen BK472.out 3; have hfz34_4 := blk_frozen BK472.out 4))
              go_meet
              case rel => exact ⟨_, (decide (a2 > 9998)), (by first | rfl | (simp; done) | (simp [*]; done) | (refine congrArg _ ?_; rw [Bool.eq_iff_iff]; simp; done)), H', ⟨by first | omega | exact Nat.le_refl _⟩, ⟨by (with_reducible repeat (first | refine blk_drewN ?_ _ | refine blk_drew ?_ | refine blk_alloc ?_ _)); exact BK472.out⟩, ⟨by repeat (first | (with_reducible first | exact HB.out | apply below_alloc | apply pw_below_drewN | apply below_drew1 | refine below_set ?_ GE472.out) | exact HB.out)⟩⟩
    · replace c10 := Bool.eq_false_iff.mpr c10
      subst c10
      have H1 : (epactlaw17_RuleYears.j0 k a1 a2 t473 true a0_0 a0_1 a0_2 a0_3 a0_4) = some true := by rw [if_neg (show ¬ (false = true) by decide)] at H; exact H
      clear H
      have H := H1
      clear H1
      have H' := Aside0.mk H
      clear H
      have hcz35_0 : w8.cell? ⟨gb472, 0, none⟩ = some (.int .i64 a0_0) := (blk_cell BK472.out 0).trans rfl
      have hcz35_1 : w8.cell? ⟨gb472, 1, none⟩ = some (.int .i64 a0_1) := (blk_cell BK472.out 1).trans rfl
      have hcz35_2 : w8.cell? ⟨gb472, 2, none⟩ = some (.int .i64 a0_2) := (blk_cell BK472.out 2).trans rfl
      have hcz35_3 : w8.cell? ⟨gb472, 3, none⟩ = some (.int .i64 a0_3) := (blk_cell BK472.out 3).trans rfl
      have hcz35_4 : w8.cell? ⟨gb472, 4, none⟩ = some (.int .i64 a0_4) := (blk_cell BK472.out 4).trans rfl
      have hfz35_0 := blk_frozen BK472.out 0
      have hfz35_1 := blk_frozen BK472.out 1
      have hfz35_2 := blk_frozen BK472.out 2
      have hfz35_3 := blk_frozen BK472.out 3
      have hfz35_4 := blk_frozen BK472.out 4
      go_wp2_with (first | ((with_reducible refine gate_callee (f := 34) rfl ?_); refine goesL_ (some 26) rfl rfl Tryd.func34 (by kernel_rfl) rfl #[.agg #[.int .i64 a0_0, .int .i64 a0_1, .int .i64 a0_2, .int .i64 a0_3, .int .i64 a0_4]] rfl (by (try simp only [List.map_toArray, List.map_cons, List.map_nil]); first | done | rfl | (simp only [List.length_drop, List.length_take]; rfl)) ?_; (with_reducible refine (rule_Right.calls a0_0 a0_1 a0_2 a0_3 a0_4 false _ ?side736 A9.out).mono ?_); (case side736 => first | exact hG | exact hG.at1 HB | exact hG.drewN _ | (refine hG.below ?_; repeat (first | (with_reducible first | exact HB.out | apply below_alloc | apply pw_below_drewN | apply below_drew1 | refine below_set ?_ GE472.out) | exact HB.out))); rintro e w37 ⟨rfl, hb⟩; refine ⟨_, rfl, ?_⟩; have n0_ := Aside0.mk (blk_below (g := gb472) (o := .cells #[.int .i64 a0_0, .int .i64 a0_1, .int .i64 a0_2, .int .i64 a0_3, .int .i64 a0_4] 42 (0, 0)) (by (with_reducible repeat (first | refine blk_drewN ?_ _ | refine blk_drew ?_ | refine blk_alloc ?_ _)); exact BK472.out) hb); have n1_ := Aside0.mk (below_step (by repeat (first | (with_reducible first | exact HB.out | apply below_alloc | apply pw_below_drewN | apply below_drew1 | refine below_set ?_ GE472.out) | exact HB.out)) hb); clear BK472; clear HB; have BK472 := n0_; have HB := n1_; clear n0_ n1_; (try clear hb); (try clear hb2); (try clear hk); (try clear hi)))
      go_meet
      case rel => exact ⟨_, (true), (by first | rfl | (simp; done) | (simp [*]; done) | (refine congrArg _ ?_; rw [Bool.eq_iff_iff]; simp; done)), H', ⟨by first | omega | exact Nat.le_refl _⟩, ⟨by (with_reducible repeat (first | refine blk_drewN ?_ _ | refine blk_drew ?_ | refine blk_alloc ?_ _)); exact BK472.out⟩, ⟨by repeat (first | (with_reducible first | exact HB.out | apply below_alloc | apply pw_below_drewN | apply below_drew1 | refine below_set ?_ GE472.out) | exact HB.out)⟩⟩
  case rest =>
    clear HC5
    try clear c1
    try clear c2
    try clear p2
    try clear c3
    try clear c10
    try clear c11
    try clear c11b0
    try clear c11b1
    try clear c12
    try clear c16
    try clear c16b0
    try clear c21
    try clear c21b0
    try clear c26
    try clear c26b0
    try clear c34
    try clear hcz12_0
    try clear hcz12_1
    try clear hcz12_2
    try clear hcz12_3
    try clear hcz12_4
    try clear hcz15_0
    try clear hcz15_1
    try clear hcz15_2
    try clear hcz15_3
    try clear hcz15_4
    try clear hcz17_0
    try clear hcz17_1
    try clear hcz17_2
    try clear hcz17_3
    try clear hcz17_4
    try clear hcz20_0
    try clear hcz20_1
    try clear hcz20_2
    try clear hcz20_3
    try clear hcz20_4
    try clear hcz22_0
    try clear hcz22_1
    try clear hcz22_2
    try clear hcz22_3
    try clear hcz22_4
    try clear hcz25_0
    try clear hcz25_1
    try clear hcz25_2
    try clear hcz25_3
    try clear hcz25_4
    try clear hcz27_0
    try clear hcz27_1
    try clear hcz27_2
    try clear hcz27_3
    try clear hcz27_4
    try clear hcz30_0
    try clear hcz30_1
    try clear hcz30_2
    try clear hcz30_3
    try clear hcz30_4
    try clear hcz31_0
    try clear hcz31_1
    try clear hcz31_2
    try clear hcz31_3
    try clear hcz31_4
    try clear hcz34_0
    try clear hcz34_1
    try clear hcz34_2
    try clear hcz34_3
    try clear hcz34_4
    try clear hcz35_0
    try clear hcz35_1
    try clear hcz35_2
    try clear hcz35_3
    try clear hcz35_4
    try clear hfz12_0
    try clear hfz12_1
    try clear hfz12_2
    try clear hfz12_3
    try clear hfz12_4
    try clear hfz15_0
    try clear hfz15_1
    try clear hfz15_2
    try clear hfz15_3
    try clear hfz15_4
    try clear hfz17_0
    try clear hfz17_1
    try clear hfz17_2
    try clear hfz17_3
    try clear hfz17_4
    try clear hfz20_0
    try clear hfz20_1
    try clear hfz20_2
    try clear hfz20_3
    try clear hfz20_4
    try clear hfz22_0
    try clear hfz22_1
    try clear hfz22_2
    try clear hfz22_3
    try clear hfz22_4
    try clear hfz25_0
    try clear hfz25_1
    try clear hfz25_2
    try clear hfz25_3
    try clear hfz25_4
    try clear hfz27_0
    try clear hfz27_1
    try clear hfz27_2
    try clear hfz27_3
    try clear hfz27_4
    try clear hfz30_0
    try clear hfz30_1
    try clear hfz30_2
    try clear hfz30_3
    try clear hfz30_4
    try clear hfz31_0
    try clear hfz31_1
    try clear hfz31_2
    try clear hfz31_3
    try clear hfz31_4
    try clear hfz34_0
    try clear hfz34_1
    try clear hfz34_2
    try clear hfz34_3
    try clear hfz34_4
    try clear hfz35_0
    try clear hfz35_1
    try clear hfz35_2
    try clear hfz35_3
    try clear hfz35_4
    obtain ⟨kq, x48_4, rfl, HA, HJ4, BK472, HB⟩ := hcut
    cases kq with
    | zero => exact absurd HA.out (by simp [epactlaw17_RuleYears.j0])
    | succ kj4 =>
      have H := HA.out
      clear HA
      simp only [epactlaw17_RuleYears.j0] at H
      by_cases c38 : x48_4 = true
      · subst c38
        have H1 : (some t473) = some true := by rw [if_pos rfl] at H; exact H
        clear H
        have H := H1
        clear H1
        have hT := Option.some.inj H
        clear H
        try have hT2 : (t473) = true := by simpa using hT
        go_wp2
        go_ret
        exact ⟨by first | rfl | (simp [errW_none, errW_some] <;> rfl) | (simp [*, errW_none, errW_some] <;> rfl), by repeat (first | (with_reducible first | exact HB.out | apply below_alloc | apply pw_below_drewN | apply below_drew1 | refine below_set ?_ GE472.out) | exact HB.out)⟩
      · replace c38 := Bool.eq_false_iff.mpr c38
        subst c38
        have H1 : ((rule_Day.f kj4 a0_0 a0_1 a0_2 a0_3 a0_4 a1).bind fun bt475 => ((rule_Day.f kj4 a0_0 a0_1 a0_2 a0_3 a0_4 a2).bind fun bt477 => ((day_Date.f kj4 bt475.1).bind fun bt479 => ((day_Date.f kj4 bt477.1).bind fun bt483 => ((day_Number.f kj4 a1 1 1).bind fun bt487 => ((rule_At.f kj4 a0_0 a0_1 a0_2 a0_3 a0_4 a1).bind fun bt489 => (if bt475.2 = true then (if bt477.2 = true then (epactlaw17_RuleYears.j1 kj4 a1 a2 t473 bt475.1 bt479.1 bt479.2.1 bt479.2.2.1 bt483.1 bt483.2.1 bt483.2.2.1 bt487.1 (bt489.1 != (wrap64 ((wrap64 (86400 * bt475.1)) + a0_4))) a0_0 a0_1 a0_2 a0_3 a0_4) else (epactlaw17_RuleYears.j1 kj4 a1 a2 t473 bt475.1 bt479.1 bt479.2.1 bt479.2.2.1 bt483.1 bt483.2.1 bt483.2.2.1 bt487.1 true a0_0 a0_1 a0_2 a0_3 a0_4)) else (epactlaw17_RuleYears.j1 kj4 a1 a2 t473 bt475.1 bt479.1 bt479.2.1 bt479.2.2.1 bt483.1 bt483.2.1 bt483.2.2.1 bt487.1 true a0_0 a0_1 a0_2 a0_3 a0_4)))))))) = some true := by rw [if_neg (show ¬ (false = true) by decide)] at H; exact H
        clear H
        have H := H1
        clear H1
        replace H := Option.bind_eq_some_iff.mp H
        obtain ⟨⟨t475, t476⟩, A390, H⟩ := H
        replace H : ((rule_Day.f kj4 a0_0 a0_1 a0_2 a0_3 a0_4 a2).bind fun bt477 => ((day_Date.f kj4 t475).bind fun bt479 => ((day_Date.f kj4 bt477.1).bind fun bt483 => ((day_Number.f kj4 a1 1 1).bind fun bt487 => ((rule_At.f kj4 a0_0 a0_1 a0_2 a0_3 a0_4 a1).bind fun bt489 => (if t476 = true then (if bt477.2 = true then (epactlaw17_RuleYears.j1 kj4 a1 a2 t473 t475 bt479.1 bt479.2.1 bt479.2.2.1 bt483.1 bt483.2.1 bt483.2.2.1 bt487.1 (bt489.1 != (wrap64 ((wrap64 (86400 * t475)) + a0_4))) a0_0 a0_1 a0_2 a0_3 a0_4) else (epactlaw17_RuleYears.j1 kj4 a1 a2 t473 t475 bt479.1 bt479.2.1 bt479.2.2.1 bt483.1 bt483.2.1 bt483.2.2.1 bt487.1 true a0_0 a0_1 a0_2 a0_3 a0_4)) else (epactlaw17_RuleYears.j1 kj4 a1 a2 t473 t475 bt479.1 bt479.2.1 bt479.2.2.1 bt483.1 bt483.2.1 bt483.2.2.1 bt487.1 true a0_0 a0_1 a0_2 a0_3 a0_4))))))) = some true := H
        have A39 := Aside0.mk A390
        clear A390
        replace H := Option.bind_eq_some_iff.mp H
        obtain ⟨⟨t477, t478⟩, A400, H⟩ := H
        replace H : ((day_Date.f kj4 t475).bind fun bt479 => ((day_Date.f kj4 t477).bind fun bt483 => ((day_Number.f kj4 a1 1 1).bind fun bt487 => ((rule_At.f kj4 a0_0 a0_1 a0_2 a0_3 a0_4 a1).bind fun bt489 => (if t476 = true then (if t478 = true then (epactlaw17_RuleYears.j1 kj4 a1 a2 t473 t475 bt479.1 bt479.2.1 bt479.2.2.1 bt483.1 bt483.2.1 bt483.2.2.1 bt487.1 (bt489.1 != (wrap64 ((wrap64 (86400 * t475)) + a0_4))) a0_0 a0_1 a0_2 a0_3 a0_4) else (epactlaw17_RuleYears.j1 kj4 a1 a2 t473 t475 bt479.1 bt479.2.1 bt479.2.2.1 bt483.1 bt483.2.1 bt483.2.2.1 bt487.1 true a0_0 a0_1 a0_2 a0_3 a0_4)) else (epactlaw17_RuleYears.j1 kj4 a1 a2 t473 t475 bt479.1 bt479.2.1 bt479.2.2.1 bt483.1 bt483.2.1 bt483.2.2.1 bt487.1 true a0_0 a0_1 a0_2 a0_3 a0_4)))))) = some true := H
        have A40 := Aside0.mk A400
        clear A400
        replace H := Option.bind_eq_some_iff.mp H
        obtain ⟨⟨t479, t480, t481, t482⟩, A410, H⟩ := H
        replace H : ((day_Date.f kj4 t477).bind fun bt483 => ((day_Number.f kj4 a1 1 1).bind fun bt487 => ((rule_At.f kj4 a0_0 a0_1 a0_2 a0_3 a0_4 a1).bind fun bt489 => (if t476 = true then (if t478 = true then (epactlaw17_RuleYears.j1 kj4 a1 a2 t473 t475 t479 t480 t481 bt483.1 bt483.2.1 bt483.2.2.1 bt487.1 (bt489.1 != (wrap64 ((wrap64 (86400 * t475)) + a0_4))) a0_0 a0_1 a0_2 a0_3 a0_4) else (epactlaw17_RuleYears.j1 kj4 a1 a2 t473 t475 t479 t480 t481 bt483.1 bt483.2.1 bt483.2.2.1 bt487.1 true a0_0 a0_1 a0_2 a0_3 a0_4)) else (epactlaw17_RuleYears.j1 kj4 a1 a2 t473 t475 t479 t480 t481 bt483.1 bt483.2.1 bt483.2.2.1 bt487.1 true a0_0 a0_1 a0_2 a0_3 a0_4))))) = some true := H
        have A41 := Aside0.mk A410
        clear A410
        replace H := Option.bind_eq_some_iff.mp H
        obtain ⟨⟨t483, t484, t485, t486⟩, A420, H⟩ := H
        replace H : ((day_Number.f kj4 a1 1 1).bind fun bt487 => ((rule_At.f kj4 a0_0 a0_1 a0_2 a0_3 a0_4 a1).bind fun bt489 => (if t476 = true then (if t478 = true then (epactlaw17_RuleYears.j1 kj4 a1 a2 t473 t475 t479 t480 t481 t483 t484 t485 bt487.1 (bt489.1 != (wrap64 ((wrap64 (86400 * t475)) + a0_4))) a0_0 a0_1 a0_2 a0_3 a0_4) else (epactlaw17_RuleYears.j1 kj4 a1 a2 t473 t475 t479 t480 t481 t483 t484 t485 bt487.1 true a0_0 a0_1 a0_2 a0_3 a0_4)) else (epactlaw17_RuleYears.j1 kj4 a1 a2 t473 t475 t479 t480 t481 t483 t484 t485 bt487.1 true a0_0 a0_1 a0_2 a0_3 a0_4)))) = some true := H
        have A42 := Aside0.mk A420
        clear A420
        replace H := Option.bind_eq_some_iff.mp H
        obtain ⟨⟨t487, t488⟩, A430, H⟩ := H
        replace H : ((rule_At.f kj4 a0_0 a0_1 a0_2 a0_3 a0_4 a1).bind fun bt489 => (if t476 = true then (if t478 = true then (epactlaw17_RuleYears.j1 kj4 a1 a2 t473 t475 t479 t480 t481 t483 t484 t485 t487 (bt489.1 != (wrap64 ((wrap64 (86400 * t475)) + a0_4))) a0_0 a0_1 a0_2 a0_3 a0_4) else (epactlaw17_RuleYears.j1 kj4 a1 a2 t473 t475 t479 t480 t481 t483 t484 t485 t487 true a0_0 a0_1 a0_2 a0_3 a0_4)) else (epactlaw17_RuleYears.j1 kj4 a1 a2 t473 t475 t479 t480 t481 t483 t484 t485 t487 true a0_0 a0_1 a0_2 a0_3 a0_4))) = some true := H
        have A43 := Aside0.mk A430
        clear A430
        replace H := Option.bind_eq_some_iff.mp H
        obtain ⟨⟨t489, t490⟩, A440, H⟩ := H
        replace H : (if t476 = true then (if t478 = true then (epactlaw17_RuleYears.j1 kj4 a1 a2 t473 t475 t479 t480 t481 t483 t484 t485 t487 (t489 != (wrap64 ((wrap64 (86400 * t475)) + a0_4))) a0_0 a0_1 a0_2 a0_3 a0_4) else (epactlaw17_RuleYears.j1 kj4 a1 a2 t473 t475 t479 t480 t481 t483 t484 t485 t487 true a0_0 a0_1 a0_2 a0_3 a0_4)) else (epactlaw17_RuleYears.j1 kj4 a1 a2 t473 t475 t479 t480 t481 t483 t484 t485 t487 true a0_0 a0_1 a0_2 a0_3 a0_4)) = some true := H
        have A44 := Aside0.mk A440
        clear A440
        have HC45 := Aside0.mk H
        clear H
        have hcz46_0 : wc.cell? ⟨gb472, 0, none⟩ = some (.int .i64 a0_0) := (blk_cell BK472.out 0).trans rfl
        have hcz46_1 : wc.cell? ⟨gb472, 1, none⟩ = some (.int .i64 a0_1) := (blk_cell BK472.out 1).trans rfl
        have hcz46_2 : wc.cell? ⟨gb472, 2, none⟩ = some (.int .i64 a0_2) := (blk_cell BK472.out 2).trans rfl
        have hcz46_3 : wc.cell? ⟨gb472, 3, none⟩ = some (.int .i64 a0_3) := (blk_cell BK472.out 3).trans rfl
        have hcz46_4 : wc.cell? ⟨gb472, 4, none⟩ = some (.int .i64 a0_4) := (blk_cell BK472.out 4).trans rfl
        have hfz46_0 := blk_frozen BK472.out 0
        have hfz46_1 := blk_frozen BK472.out 1
        have hfz46_2 := blk_frozen BK472.out 2
        have hfz46_3 := blk_frozen BK472.out 3
        have hfz46_4 := blk_frozen BK472.out 4
        go_upto_region 10 with (first | ((with_reducible refine gate_callee (f := 32) rfl ?_); refine goesL_ (some 53) rfl rfl Tryd.func32 (by kernel_rfl) rfl #[.agg #[.int .i64 a0_0, .int .i64 a0_1, .int .i64 a0_2, .int .i64 a0_3, .int .i64 a0_4], .int .i64 a1] rfl (by (try simp only [List.map_toArray, List.map_cons, List.map_nil]); first | done | rfl | (simp only [List.length_drop, List.length_take]; rfl)) ?_; (with_reducible refine (rule_Day.calls kj4 a0_0 a0_1 a0_2 a0_3 a0_4 a1 t475 t476 _ ?side747 A39.out).mono ?_); (case side747 => first | exact hG | exact hG.at1 HB | exact hG.drewN _ | (refine hG.below ?_; repeat (first | (with_reducible first | exact HB.out | apply below_alloc | apply pw_below_drewN | apply below_drew1 | refine below_set ?_ GE472.out) | exact HB.out))); rintro e w48 ⟨rfl, hb⟩; refine ⟨_, rfl, ?_⟩; have n0_ := Aside0.mk (blk_below (g := gb472) (o := .cells #[.int .i64 a0_0, .int .i64 a0_1, .int .i64 a0_2, .int .i64 a0_3, .int .i64 a0_4] 42 (0, 0)) (by (with_reducible repeat (first | refine blk_drewN ?_ _ | refine blk_drew ?_ | refine blk_alloc ?_ _)); exact BK472.out) hb); have n1_ := Aside0.mk (below_step (by repeat (first | (with_reducible first | exact HB.out | apply below_alloc | apply pw_below_drewN | apply below_drew1 | refine below_set ?_ GE472.out) | exact HB.out)) hb); clear BK472; clear HB; have BK472 := n0_; have HB := n1_; clear n0_ n1_; (try clear hb); (try clear hb2); (try clear hk); (try clear hi); have hcz49_0 : w48.cell? ⟨gb472, 0, none⟩ = some (.int .i64 a0_0) := (blk_cell BK472.out 0).trans rfl; have hcz49_1 : w48.cell? ⟨gb472, 1, none⟩ = some (.int .i64 a0_1) := (blk_cell BK472.out 1).trans rfl; have hcz49_2 : w48.cell? ⟨gb472, 2, none⟩ = some (.int .i64 a0_2) := (blk_cell BK472.out 2).trans rfl; have hcz49_3 : w48.cell? ⟨gb472, 3, none⟩ = some (.int .i64 a0_3) := (blk_cell BK472.out 3).trans rfl; have hcz49_4 : w48.cell? ⟨gb472, 4, none⟩ = some (.int .i64 a0_4) := (blk_cell BK472.out 4).trans rfl; have hfz49_0 := blk_frozen BK472.out 0; have hfz49_1 := blk_frozen BK472.out 1; have hfz49_2 := blk_frozen BK472.out 2; have hfz49_3 := blk_frozen BK472.out 3; have hfz49_4 := blk_frozen BK472.out 4) | ((with_reducible refine gate_callee (f := 32) rfl ?_); refine goesL_ (some 59) rfl rfl Tryd.func32 (by kernel_rfl) rfl #[.agg #[.int .i64 a0_0, .int .i64 a0_1, .int .i64 a0_2, .int .i64 a0_3, .int .i64 a0_4], .int .i64 a2] rfl (by (try simp only [List.map_toArray, List.map_cons, List.map_nil]); first | done | rfl | (simp only [List.length_drop, List.length_take]; rfl)) ?_; (with_reducible refine (rule_Day.calls kj4 a0_0 a0_1 a0_2 a0_3 a0_4 a2 t477 t478 _ ?side750 A40.out).mono ?_); (case side750 => first | exact hG | exact hG.at1 HB | exact hG.drewN _ | (refine hG.below ?_; repeat (first | (with_reducible first | exact HB.out | apply below_alloc | apply pw_below_drewN | apply below_drew1 | refine below_set ?_ GE472.out) | exact HB.out))); rintro e w51 ⟨rfl, hb⟩; refine ⟨_, rfl, ?_⟩; have n0_ := Aside0.mk (blk_below (g := gb472) (o := .cells #[.int .i64 a0_0, .int .i64 a0_1, .int .i64 a0_2, .int .i64 a0_3, .int .i64 a0_4] 42 (0, 0)) (by (with_reducible repeat (first | refine blk_drewN ?_ _ | refine blk_drew ?_ | refine blk_alloc ?_ _)); exact BK472.out) hb); have n1_ := Aside0.mk (below_step (by repeat (first | (with_reducible first | exact HB.out | apply below_alloc | apply pw_below_drewN | apply below_drew1 | refine below_set ?_ GE472.out) | exact HB.out)) hb); clear BK472; clear HB; have BK472 := n0_; have HB := n1_; clear n0_ n1_; (try clear hb); (try clear hb2); (try clear hk); (try clear hi)) | ((with_reducible refine gate_callee (f := 36) rfl ?_); refine goesL_ (some 64) rfl rfl Tryd.func36 (by kernel_rfl) rfl #[.int .i64 t475] rfl (by (try simp only [List.map_toArray, List.map_cons, List.map_nil]); first | done | rfl | (simp only [List.length_drop, List.length_take]; rfl)) ?_; (with_reducible refine (day_Date.calls kj4 t475 t479 t480 t481 t482 _ ?side752 A41.out).mono ?_); (case side752 => first | exact hG | exact hG.at1 HB | exact hG.drewN _ | (refine hG.below ?_; repeat (first | (with_reducible first | exact HB.out | apply below_alloc | apply pw_below_drewN | apply below_drew1 | refine below_set ?_ GE472.out) | exact HB.out))); rintro e w' ⟨rfl, ⟨nd, rfl⟩⟩; refine ⟨_, rfl, ?_⟩) | ((with_reducible refine gate_callee (f := 36) rfl ?_); refine goesL_ (some 71) rfl rfl Tryd.func36 (by kernel_rfl) rfl #[.int .i64 t477] rfl (by (try simp only [List.map_toArray, List.map_cons, List.map_nil]); first | done | rfl | (simp only [List.length_drop, List.length_take]; rfl)) ?_; (with_reducible refine (day_Date.calls kj4 t477 t483 t484 t485 t486 _ ?side753 A42.out).mono ?_); (case side753 => first | exact hG | exact hG.at1 HB | exact hG.drewN _ | (refine hG.below ?_; repeat (first | (with_reducible first | exact HB.out | apply below_alloc | apply pw_below_drewN | apply below_drew1 | refine below_set ?_ GE472.out) | exact HB.out))); rintro e w' ⟨rfl, ⟨nd, rfl⟩⟩; refine ⟨_, rfl, ?_⟩) | ((with_reducible refine gate_callee (f := 39) rfl ?_); refine goesL_ (some 78) rfl rfl Tryd.func39 (by kernel_rfl) rfl #[.int .i64 a1, .int .i64 1, .int .i64 1] rfl (by (try simp only [List.map_toArray, List.map_cons, List.map_nil]); first | done | rfl | (simp only [List.length_drop, List.length_take]; rfl)) ?_; (with_reducible refine (day_Number.calls kj4 a1 1 1 t487 t488 _ ?side754 A43.out).mono ?_); (case side754 => first | exact hG | exact hG.at1 HB | exact hG.drewN _ | (refine hG.below ?_; repeat (first | (with_reducible first | exact HB.out | apply below_alloc | apply pw_below_drewN | apply below_drew1 | refine below_set ?_ GE472.out) | exact HB.out))); rintro e w' ⟨rfl, ⟨nd, rfl⟩⟩; refine ⟨_, rfl, ?_⟩; have hcz55_0 : w51.cell? ⟨gb472, 0, none⟩ = some (.int .i64 a0_0) := (blk_cell BK472.out 0).trans rfl; have hcz55_1 : w51.cell? ⟨gb472, 1, none⟩ = some (.int .i64 a0_1) := (blk_cell BK472.out 1).trans rfl; have hcz55_2 : w51.cell? ⟨gb472, 2, none⟩ = some (.int .i64 a0_2) := (blk_cell BK472.out 2).trans rfl; have hcz55_3 : w51.cell? ⟨gb472, 3, none⟩ = some (.int .i64 a0_3) := (blk_cell BK472.out 3).trans rfl; have hcz55_4 : w51.cell? ⟨gb472, 4, none⟩ = some (.int .i64 a0_4) := (blk_cell BK472.out 4).trans rfl; have hfz55_0 := blk_frozen BK472.out 0; have hfz55_1 := blk_frozen BK472.out 1; have hfz55_2 := blk_frozen BK472.out 2; have hfz55_3 := blk_frozen BK472.out 3; have hfz55_4 := blk_frozen BK472.out 4) | ((with_reducible refine gate_callee (f := 30) rfl ?_); refine goesL_ (some 84) rfl rfl Tryd.func30 (by kernel_rfl) rfl #[.agg #[.int .i64 a0_0, .int .i64 a0_1, .int .i64 a0_2, .int .i64 a0_3, .int .i64 a0_4], .int .i64 a1] rfl (by (try simp only [List.map_toArray, List.map_cons, List.map_nil]); first | done | rfl | (simp only [List.length_drop, List.length_take]; rfl)) ?_; (with_reducible refine (rule_At.calls kj4 a0_0 a0_1 a0_2 a0_3 a0_4 a1 t489 t490 _ ?side756 A44.out).mono ?_); (case side756 => first | exact hG | exact hG.at1 HB | exact hG.drewN _ | (refine hG.below ?_; repeat (first | (with_reducible first | exact HB.out | apply below_alloc | apply pw_below_drewN | apply below_drew1 | refine below_set ?_ GE472.out) | exact HB.out))); rintro e w57 ⟨rfl, hb⟩; refine ⟨_, rfl, ?_⟩; have n0_ := Aside0.mk (blk_below (g := gb472) (o := .cells #[.int .i64 a0_0, .int .i64 a0_1, .int .i64 a0_2, .int .i64 a0_3, .int .i64 a0_4] 42 (0, 0)) (by (with_reducible repeat (first | refine blk_drewN ?_ _ | refine blk_drew ?_ | refine blk_alloc ?_ _)); exact BK472.out) hb); have n1_ := Aside0.mk (below_step (by repeat (first | (with_reducible first | exact HB.out | apply below_alloc | apply pw_below_drewN | apply below_drew1 | refine below_set ?_ GE472.out) | exact HB.out)) hb); clear BK472; clear HB; have BK472 := n0_; have HB := n1_; clear n0_ n1_; (try clear hb); (try clear hb2); (try clear hk); (try clear hi)))
        (try simp only [Act.put, List.setIfInBounds_toArray, List.set_cons_zero, List.set_cons_succ])
        go_cut [101] (fun v101 wc => ∃ (kq : Nat) (x101_44 : Bool), v101 = .bool x101_44 ∧ Aside0 (epactlaw17_RuleYears.j1 kq a1 a2 t473 t475 t479 t480 t481 t483 t484 t485 t487 x101_44 a0_0 a0_1 a0_2 a0_3 a0_4 = some true) ∧ Aside0 (kq ≤ kj4) ∧ Aside0 (wc.heap[gb472]? = some (.cells #[.int .i64 a0_0, .int .i64 a0_1, .int .i64 a0_2, .int .i64 a0_3, .int .i64 a0_4] 42 (0, 0))) ∧ Aside0 (Below w.heap.size w wc))
        case first =>
          have H := HC45.out
          clear HC45
          by_cases c58 : t476 = true
          · subst c58
            have H1 : (if t478 = true then (epactlaw17_RuleYears.j1 kj4 a1 a2 t473 t475 t479 t480 t481 t483 t484 t485 t487 (t489 != (wrap64 ((wrap64 (86400 * t475)) + a0_4))) a0_0 a0_1 a0_2 a0_3 a0_4) else (epactlaw17_RuleYears.j1 kj4 a1 a2 t473 t475 t479 t480 t481 t483 t484 t485 t487 true a0_0 a0_1 a0_2 a0_3 a0_4)) = some true := by rw [if_pos rfl] at H; exact H
            clear H
            have H := H1
            clear H1
            by_cases c59 : t478 = true
            · subst c59
              have H1 : (epactlaw17_RuleYears.j1 kj4 a1 a2 t473 t475 t479 t480 t481 t483 t484 t485 t487 (t489 != (wrap64 ((wrap64 (86400 * t475)) + a0_4))) a0_0 a0_1 a0_2 a0_3 a0_4) = some true := by rw [if_pos rfl] at H; exact H
              clear H
              have H := H1
              clear H1
              have H' := Aside0.mk H
              clear H
              have hcz60_0 : w57.cell? ⟨gb472, 0, none⟩ = some (.int .i64 a0_0) := (blk_cell BK472.out 0).trans rfl
              have hcz60_1 : w57.cell? ⟨gb472, 1, none⟩ = some (.int .i64 a0_1) := (blk_cell BK472.out 1).trans rfl
              have hcz60_2 : w57.cell? ⟨gb472, 2, none⟩ = some (.int .i64 a0_2) := (blk_cell BK472.out 2).trans rfl
              have hcz60_3 : w57.cell? ⟨gb472, 3, none⟩ = some (.int .i64 a0_3) := (blk_cell BK472.out 3).trans rfl
              have hcz60_4 : w57.cell? ⟨gb472, 4, none⟩ = some (.int .i64 a0_4) := (blk_cell BK472.out 4).trans rfl
              have hfz60_0 := blk_frozen BK472.out 0
              have hfz60_1 := blk_frozen BK472.out 1
              have hfz60_2 := blk_frozen BK472.out 2
              have hfz60_3 := blk_frozen BK472.out 3
              have hfz60_4 := blk_frozen BK472.out 4
              go_wp2
              go_meet
              case rel => exact ⟨_, ((t489 != (wrap64 ((wrap64 (86400 * t475)) + a0_4)))), (by first | rfl | (simp; done) | (simp [*]; done) | (refine congrArg _ ?_; rw [Bool.eq_iff_iff]; simp; done)), H', ⟨by have := HJ4.out; first | omega | exact Nat.le_refl _⟩, ⟨by (with_reducible repeat (first | refine blk_drewN ?_ _ | refine blk_drew ?_ | refine blk_alloc ?_ _)); exact BK472.out⟩, ⟨by repeat (first | (with_reducible first | exact HB.out | apply below_alloc | apply pw_below_drewN | apply below_drew1 | refine below_set ?_ GE472.out) | exact HB.out)⟩⟩
            · replace c59 := Bool.eq_false_iff.mpr c59
              subst c59
              have H1 : (epactlaw17_RuleYears.j1 kj4 a1 a2 t473 t475 t479 t480 t481 t483 t484 t485 t487 true a0_0 a0_1 a0_2 a0_3 a0_4) = some true := by rw [if_neg (show ¬ (false = true) by decide)] at H; exact H
              clear H
              have H := H1
              clear H1
              have H' := Aside0.mk H
              clear H
              go_wp2
              go_meet
              case rel => exact ⟨_, (true), (by first | rfl | (simp; done) | (simp [*]; done) | (refine congrArg _ ?_; rw [Bool.eq_iff_iff]; simp; done)), H', ⟨by have := HJ4.out; first | omega | exact Nat.le_refl _⟩, ⟨by (with_reducible repeat (first | refine blk_drewN ?_ _ | refine blk_drew ?_ | refine blk_alloc ?_ _)); exact BK472.out⟩, ⟨by repeat (first | (with_reducible first | exact HB.out | apply below_alloc | apply pw_below_drewN | apply below_drew1 | refine below_set ?_ GE472.out) | exact HB.out)⟩⟩
          · replace c58 := Bool.eq_false_iff.mpr c58
            subst c58
            have H1 : (epactlaw17_RuleYears.j1 kj4 a1 a2 t473 t475 t479 t480 t481 t483 t484 t485 t487 true a0_0 a0_1 a0_2 a0_3 a0_4) = some true := by rw [if_neg (show ¬ (false = true) by decide)] at H; exact H
            clear H
            have H := H1
            clear H1
            have H' := Aside0.mk H
            clear H
            go_wp2
            go_meet
            case rel => exact ⟨_, (true), (by first | rfl | (simp; done) | (simp [*]; done) | (refine congrArg _ ?_; rw [Bool.eq_iff_iff]; simp; done)), H', ⟨by have := HJ4.out; first | omega | exact Nat.le_refl _⟩, ⟨by (with_reducible repeat (first | refine blk_drewN ?_ _ | refine blk_drew ?_ | refine blk_alloc ?_ _)); exact BK472.out⟩, ⟨by repeat (first | (with_reducible first | exact HB.out | apply below_alloc | apply pw_below_drewN | apply below_drew1 | refine below_set ?_ GE472.out) | exact HB.out)⟩⟩
        case rest =>
          clear HC45
          try clear c1
          try clear c2
          try clear p2
          try clear c3
          try clear c5
          try clear p6
          try clear c10
          try clear c11
          try clear c11b0
          try clear c11b1
          try clear c12
          try clear c16
          try clear c16b0
          try clear c21
          try clear c21b0
          try clear c26
          try clear c26b0
          try clear c30
          try clear c32
          try clear c34
          try clear c36
          try clear c38
          try clear c39
          try clear c58
          try clear c59
          try clear hcz12_0
          try clear hcz12_1
          try clear hcz12_2
          try clear hcz12_3
          try clear hcz12_4
          try clear hcz15_0
          try clear hcz15_1
          try clear hcz15_2
          try clear hcz15_3
          try clear hcz15_4
          try clear hcz17_0
          try clear hcz17_1
          try clear hcz17_2
          try clear hcz17_3
          try clear hcz17_4
          try clear hcz20_0
          try clear hcz20_1
          try clear hcz20_2
          try clear hcz20_3
          try clear hcz20_4
          try clear hcz22_0
          try clear hcz22_1
          try clear hcz22_2
          try clear hcz22_3
          try clear hcz22_4
          try clear hcz25_0
          try clear hcz25_1
          try clear hcz25_2
          try clear hcz25_3
          try clear hcz25_4
          try clear hcz27_0
          try clear hcz27_1
          try clear hcz27_2
          try clear hcz27_3
          try clear hcz27_4
          try clear hcz30_0
          try clear hcz30_1
          try clear hcz30_2
          try clear hcz30_3
          try clear hcz30_4
          try clear hcz31_0
          try clear hcz31_1
          try clear hcz31_2
          try clear hcz31_3
          try clear hcz31_4
          try clear hcz34_0
          try clear hcz34_1
          try clear hcz34_2
          try clear hcz34_3
          try clear hcz34_4
          try clear hcz35_0
          try clear hcz35_1
          try clear hcz35_2
          try clear hcz35_3
          try clear hcz35_4
          try clear hcz46_0
          try clear hcz46_1
          try clear hcz46_2
          try clear hcz46_3
          try clear hcz46_4
          try clear hcz49_0
          try clear hcz49_1
          try clear hcz49_2
          try clear hcz49_3
          try clear hcz49_4
          try clear hcz55_0
          try clear hcz55_1
          try clear hcz55_2
          try clear hcz55_3
          try clear hcz55_4
          try clear hcz60_0
          try clear hcz60_1
          try clear hcz60_2
          try clear hcz60_3
          try clear hcz60_4
          try clear hfz12_0
          try clear hfz12_1
          try clear hfz12_2
          try clear hfz12_3
          try clear hfz12_4
          try clear hfz15_0
          try clear hfz15_1
          try clear hfz15_2
          try clear hfz15_3
          try clear hfz15_4
          try clear hfz17_0
          try clear hfz17_1
          try clear hfz17_2
          try clear hfz17_3
          try clear hfz17_4
          try clear hfz20_0
          try clear hfz20_1
          try clear hfz20_2
          try clear hfz20_3
          try clear hfz20_4
          try clear hfz22_0
          try clear hfz22_1
          try clear hfz22_2
          try clear hfz22_3
          try clear hfz22_4
          try clear hfz25_0
          try clear hfz25_1
          try clear hfz25_2
          try clear hfz25_3
          try clear hfz25_4
          try clear hfz27_0
          try clear hfz27_1
          try clear hfz27_2
          try clear hfz27_3
          try clear hfz27_4
          try clear hfz30_0
          try clear hfz30_1
          try clear hfz30_2
          try clear hfz30_3
          try clear hfz30_4
          try clear hfz31_0
          try clear hfz31_1
          try clear hfz31_2
          try clear hfz31_3
          try clear hfz31_4
          try clear hfz34_0
          try clear hfz34_1
          try clear hfz34_2
          try clear hfz34_3
          try clear hfz34_4
          try clear hfz35_0
          try clear hfz35_1
          try clear hfz35_2
          try clear hfz35_3
          try clear hfz35_4
          try clear hfz46_0
          try clear hfz46_1
          try clear hfz46_2
          try clear hfz46_3
          try clear hfz46_4
          try clear hfz49_0
          try clear hfz49_1
          try clear hfz49_2
          try clear hfz49_3
          try clear hfz49_4
          try clear hfz55_0
          try clear hfz55_1
          try clear hfz55_2
          try clear hfz55_3
          try clear hfz55_4
          try clear hfz60_0
          try clear hfz60_1
          try clear hfz60_2
          try clear hfz60_3
          try clear hfz60_4
          try clear p2
          obtain ⟨kq, x101_44, rfl, HA, HJ44, BK472, HB⟩ := hcut
          cases kq with
          | zero => exact absurd HA.out (by simp [epactlaw17_RuleYears.j1])
          | succ kj44 =>
            have H := HA.out
            clear HA
            simp only [epactlaw17_RuleYears.j1] at H
            by_cases c61 : x101_44 = true
            · subst c61
              have H1 : (some false) = some true := by rw [if_pos rfl] at H; exact H
              clear H
              have H := H1
              clear H1
              exact absurd H (by simp)
            · replace c61 := Bool.eq_false_iff.mpr c61
              subst c61
              have H1 : (if a0_0 = 1 then (if t473 = true then (if t479 = a1 then (if t483 = a2 then (if t480 = t484 then (if t481 = t485 then (if t480 = 2 then (some (t481 != 29)) else (some true)) else (some false)) else (some false)) else (some false)) else (some false)) else (some false)) else (if t473 = true then (if t475 = (wrap64 (t487 + a0_1)) then (if t479 = a1 then (some true) else (if t479 = (wrap64 (a1 + 1)) then (if t480 = 1 then (some (t481 == 1)) else (some false)) else (some false))) else (some false)) else (some false))) = some true := by rw [if_neg (show ¬ (false = true) by decide)] at H; exact H
              clear H
              have H := H1
              clear H1
              by_cases c62 : a0_0 = 1
              · rw [if_pos c62] at H
                have c62b0 : (a0_0 == 1) = true := beq_iff_eq.mpr c62
                have c62b1 : (a0_0 != 1) = false := bne_eq_false_iff_eq.mpr c62
                clear c62
                by_cases c63 : t473 = true
                · subst c63
                  have H1 : (if t479 = a1 then (if t483 = a2 then (if t480 = t484 then (if t481 = t485 then (if t480 = 2 then (some (t481 != 29)) else (some true)) else (some false)) else (some false)) else (some false)) else (some false)) = some true := by rw [if_pos rfl] at H; exact H
                  clear H
                  have H := H1
                  clear H1
                  by_cases c64 : t479 = a1
                  · rw [if_pos c64] at H
                    have c64b0 : (t479 == a1) = true := beq_iff_eq.mpr c64
                    have c64b1 : (t479 != a1) = false := bne_eq_false_iff_eq.mpr c64
                    clear c64
                    by_cases c65 : t483 = a2
                    · rw [if_pos c65] at H
                      have c65b0 : (t483 == a2) = true := beq_iff_eq.mpr c65
                      have c65b1 : (t483 != a2) = false := bne_eq_false_iff_eq.mpr c65
                      clear c65
                      by_cases c66 : t480 = t484
                      · rw [if_pos c66] at H
                        have c66b0 : (t480 == t484) = true := beq_iff_eq.mpr c66
                        have c66b1 : (t480 != t484) = false := bne_eq_false_iff_eq.mpr c66
                        clear c66
                        by_cases c67 : t481 = t485
                        · rw [if_pos c67] at H
                          have c67b0 : (t481 == t485) = true := beq_iff_eq.mpr c67
                          have c67b1 : (t481 != t485) = false := bne_eq_false_iff_eq.mpr c67
                          clear c67
                          by_cases c68 : t480 = 2
                          · rw [if_pos c68] at H
                            have c68b0 : (t480 == 2) = true := beq_iff_eq.mpr c68
                            have c68b1 : (t480 != 2) = false := bne_eq_false_iff_eq.mpr c68
                            clear c68
                            have hT := Option.some.inj H
                            clear H
                            try have hT2 : ((t481 != 29)) = true := by simpa using hT
                            have hcz69_0 : wc.cell? ⟨gb472, 0, none⟩ = some (.int .i64 a0_0) := (blk_cell BK472.out 0).trans rfl
                            have hcz69_1 : wc.cell? ⟨gb472, 1, none⟩ = some (.int .i64 a0_1) := (blk_cell BK472.out 1).trans rfl
                            have hcz69_2 : wc.cell? ⟨gb472, 2, none⟩ = some (.int .i64 a0_2) := (blk_cell BK472.out 2).trans rfl
                            have hcz69_3 : wc.cell? ⟨gb472, 3, none⟩ = some (.int .i64 a0_3) := (blk_cell BK472.out 3).trans rfl
                            have hcz69_4 : wc.cell? ⟨gb472, 4, none⟩ = some (.int .i64 a0_4) := (blk_cell BK472.out 4).trans rfl
                            have hfz69_0 := blk_frozen BK472.out 0
                            have hfz69_1 := blk_frozen BK472.out 1
                            have hfz69_2 := blk_frozen BK472.out 2
                            have hfz69_3 := blk_frozen BK472.out 3
                            have hfz69_4 := blk_frozen BK472.out 4
                            go_wp2
                            go_ret
                            exact ⟨by first | rfl | (simp [errW_none, errW_some] <;> rfl) | (simp [*, errW_none, errW_some] <;> rfl), by repeat (first | (with_reducible first | exact HB.out | apply below_alloc | apply pw_below_drewN | apply below_drew1 | refine below_set ?_ GE472.out) | exact HB.out)⟩
                          · rw [if_neg c68] at H
                            have c68b0 : (t480 == 2) = false := beq_eq_false_iff_ne.mpr c68
                            have c68b1 : (t480 != 2) = true := bne_iff_ne.mpr c68
                            clear H
                            have hcz70_0 : wc.cell? ⟨gb472, 0, none⟩ = some (.int .i64 a0_0) := (blk_cell BK472.out 0).trans rfl
                            have hcz70_1 : wc.cell? ⟨gb472, 1, none⟩ = some (.int .i64 a0_1) := (blk_cell BK472.out 1).trans rfl
                            have hcz70_2 : wc.cell? ⟨gb472, 2, none⟩ = some (.int .i64 a0_2) := (blk_cell BK472.out 2).trans rfl
                            have hcz70_3 : wc.cell? ⟨gb472, 3, none⟩ = some (.int .i64 a0_3) := (blk_cell BK472.out 3).trans rfl
                            have hcz70_4 : wc.cell? ⟨gb472, 4, none⟩ = some (.int .i64 a0_4) := (blk_cell BK472.out 4).trans rfl
                            have hfz70_0 := blk_frozen BK472.out 0
                            have hfz70_1 := blk_frozen BK472.out 1
                            have hfz70_2 := blk_frozen BK472.out 2
                            have hfz70_3 := blk_frozen BK472.out 3
                            have hfz70_4 := blk_frozen BK472.out 4
                            go_wp2
                            go_ret
                            exact ⟨by first | rfl | (simp [errW_none, errW_some] <;> rfl) | (simp [*, errW_none, errW_some] <;> rfl), by repeat (first | (with_reducible first | exact HB.out | apply below_alloc | apply pw_below_drewN | apply below_drew1 | refine below_set ?_ GE472.out) | exact HB.out)⟩
                        · rw [if_neg c67] at H
                          have c67b0 : (t481 == t485) = false := beq_eq_false_iff_ne.mpr c67
                          have c67b1 : (t481 != t485) = true := bne_iff_ne.mpr c67
                          exact absurd H (by simp)
                      · rw [if_neg c66] at H
                        have c66b0 : (t480 == t484) = false := beq_eq_false_iff_ne.mpr c66
                        have c66b1 : (t480 != t484) = true := bne_iff_ne.mpr c66
                        exact absurd H (by simp)
                    · rw [if_neg c65] at H
                      have c65b0 : (t483 == a2) = false := beq_eq_false_iff_ne.mpr c65
                      have c65b1 : (t483 != a2) = true := bne_iff_ne.mpr c65
                      exact absurd H (by simp)
                  · rw [if_neg c64] at H
                    have c64b0 : (t479 == a1) = false := beq_eq_false_iff_ne.mpr c64
                    have c64b1 : (t479 != a1) = true := bne_iff_ne.mpr c64
                    exact absurd H (by simp)
                · replace c63 := Bool.eq_false_iff.mpr c63
                  subst c63
                  have H1 : (some false) = some true := by rw [if_neg (show ¬ (false = true) by decide)] at H; exact H
                  clear H
                  have H := H1
                  clear H1
                  exact absurd H (by simp)
              · rw [if_neg c62] at H
                have c62b0 : (a0_0 == 1) = false := beq_eq_false_iff_ne.mpr c62
                have c62b1 : (a0_0 != 1) = true := bne_iff_ne.mpr c62
                by_cases c71 : t473 = true
                · subst c71
                  have H1 : (if t475 = (wrap64 (t487 + a0_1)) then (if t479 = a1 then (some true) else (if t479 = (wrap64 (a1 + 1)) then (if t480 = 1 then (some (t481 == 1)) else (some false)) else (some false))) else (some false)) = some true := by rw [if_pos rfl] at H; exact H
                  clear H
                  have H := H1
                  clear H1
                  by_cases c72 : t475 = (wrap64 (t487 + a0_1))
                  · rw [if_pos c72] at H
                    have c72b0 : (t475 == (wrap64 (t487 + a0_1))) = true := beq_iff_eq.mpr c72
                    have c72b1 : (t475 != (wrap64 (t487 + a0_1))) = false := bne_eq_false_iff_eq.mpr c72
                    clear c72
                    by_cases c73 : t479 = a1
                    · rw [if_pos c73] at H
                      have c73b0 : (t479 == a1) = true := beq_iff_eq.mpr c73
                      have c73b1 : (t479 != a1) = false := bne_eq_false_iff_eq.mpr c73
                      clear c73
                      clear H
                      have hcz74_0 : wc.cell? ⟨gb472, 0, none⟩ = some (.int .i64 a0_0) := (blk_cell BK472.out 0).trans rfl
                      have hcz74_1 : wc.cell? ⟨gb472, 1, none⟩ = some (.int .i64 a0_1) := (blk_cell BK472.out 1).trans rfl
                      have hcz74_2 : wc.cell? ⟨gb472, 2, none⟩ = some (.int .i64 a0_2) := (blk_cell BK472.out 2).trans rfl
                      have hcz74_3 : wc.cell? ⟨gb472, 3, none⟩ = some (.int .i64 a0_3) := (blk_cell BK472.out 3).trans rfl
                      have hcz74_4 : wc.cell? ⟨gb472, 4, none⟩ = some (.int .i64 a0_4) := (blk_cell BK472.out 4).trans rfl
                      have hfz74_0 := blk_frozen BK472.out 0
                      have hfz74_1 := blk_frozen BK472.out 1
                      have hfz74_2 := blk_frozen BK472.out 2
                      have hfz74_3 := blk_frozen BK472.out 3
                      have hfz74_4 := blk_frozen BK472.out 4
                      go_wp2
                      go_ret
                      exact ⟨by first | rfl | (simp [errW_none, errW_some] <;> rfl) | (simp [*, errW_none, errW_some] <;> rfl), by repeat (first | (with_reducible first | exact HB.out | apply below_alloc | apply pw_below_drewN | apply below_drew1 | refine below_set ?_ GE472.out) | exact HB.out)⟩
                    · rw [if_neg c73] at H
                      have c73b0 : (t479 == a1) = false := beq_eq_false_iff_ne.mpr c73
                      have c73b1 : (t479 != a1) = true := bne_iff_ne.mpr c73
                      by_cases c75 : t479 = (wrap64 (a1 + 1))
                      · rw [if_pos c75] at H
                        have c75b0 : (t479 == (wrap64 (a1 + 1))) = true := beq_iff_eq.mpr c75
                        have c75b1 : (t479 != (wrap64 (a1 + 1))) = false := bne_eq_false_iff_eq.mpr c75
                        clear c75
                        by_cases c76 : t480 = 1
                        · rw [if_pos c76] at H
                          have c76b0 : (t480 == 1) = true := beq_iff_eq.mpr c76
                          have c76b1 : (t480 != 1) = false := bne_eq_false_iff_eq.mpr c76
                          clear c76
                          have hT := Option.some.inj H
                          clear H
                          try have hT2 : ((t481 == 1)) = true := by simpa using hT
                          have hcz77_0 : wc.cell? ⟨gb472, 0, none⟩ = some (.int .i64 a0_0) := (blk_cell BK472.out 0).trans rfl
                          have hcz77_1 : wc.cell? ⟨gb472, 1, none⟩ = some (.int .i64 a0_1) := (blk_cell BK472.out 1).trans rfl
                          have hcz77_2 : wc.cell? ⟨gb472, 2, none⟩ = some (.int .i64 a0_2) := (blk_cell BK472.out 2).trans rfl
                          have hcz77_3 : wc.cell? ⟨gb472, 3, none⟩ = some (.int .i64 a0_3) := (blk_cell BK472.out 3).trans rfl
                          have hcz77_4 : wc.cell? ⟨gb472, 4, none⟩ = some (.int .i64 a0_4) := (blk_cell BK472.out 4).trans rfl
                          have hfz77_0 := blk_frozen BK472.out 0
                          have hfz77_1 := blk_frozen BK472.out 1
                          have hfz77_2 := blk_frozen BK472.out 2
                          have hfz77_3 := blk_frozen BK472.out 3
                          have hfz77_4 := blk_frozen BK472.out 4
                          go_wp2
                          go_ret
                          exact ⟨by first | rfl | (simp [errW_none, errW_some] <;> rfl) | (simp [*, errW_none, errW_some] <;> rfl), by repeat (first | (with_reducible first | exact HB.out | apply below_alloc | apply pw_below_drewN | apply below_drew1 | refine below_set ?_ GE472.out) | exact HB.out)⟩
                        · rw [if_neg c76] at H
                          have c76b0 : (t480 == 1) = false := beq_eq_false_iff_ne.mpr c76
                          have c76b1 : (t480 != 1) = true := bne_iff_ne.mpr c76
                          exact absurd H (by simp)
                      · rw [if_neg c75] at H
                        have c75b0 : (t479 == (wrap64 (a1 + 1))) = false := beq_eq_false_iff_ne.mpr c75
                        have c75b1 : (t479 != (wrap64 (a1 + 1))) = true := bne_iff_ne.mpr c75
                        exact absurd H (by simp)
                  · rw [if_neg c72] at H
                    have c72b0 : (t475 == (wrap64 (t487 + a0_1))) = false := beq_eq_false_iff_ne.mpr c72
                    have c72b1 : (t475 != (wrap64 (t487 + a0_1))) = true := bne_iff_ne.mpr c72
                    exact absurd H (by simp)
                · replace c71 := Bool.eq_false_iff.mpr c71
                  subst c71
                  have H1 : (some false) = some true := by rw [if_neg (show ¬ (false = true) by decide)] at H; exact H
                  clear H
                  have H := H1
                  clear H1
                  exact absurd H (by simp)

end Go.Proofs.YtghjemcbkackjaaDoor.P
