-- written by this project's program mkprint.py out of the translation; Lean checks it
import Derived.Test.YtghjemcbkackjaaDoorPx0
import Derived.Test.YtghjemcbkackjaaDoorPx1
import Derived.Test.YtghjemcbkackjaaDoorPx4
import Derived.Test.YtghjemcbkackjaaDoorPx5
import Derived.Test.YtghjemcbkackjaaDoorPx7
import Derived.Test.YtghjemcbkackjaaDoorPxS
namespace Go.Proofs.YtghjemcbkackjaaDoor.P
open Go.Proofs.YtghjemcbkackjaaDoor.F
open Go.RowKit Go.Proofs.YtghjemcbkackjaaDoorW.PrintWords Go.Proofs.YtghjemcbkackjaaDoorW.PrintLast Go.Proofs.YtghjemcbkackjaaDoorW.PrintMore
attribute [local go_sem] max2_int min2_int max_two min_two max_three min_three max_four min_four   -- for this text's walks alone
set_option linter.unusedVariables false
set_option linter.unusedSimpArgs false

attribute [local go_sem high] eqA42
/-! ### epactlaw17_RuleBack: function 8 -/
mutual
def epactlaw17_RuleBack.j0 : Nat → Int → Bool → ByteArray → Bool → Bool → Int → Int → Int → Int → Int → Option (Bool)
  | 0, _, _, _, _, _, _, _, _, _, _ => none
  | k + 1, x1, x5, x6, x7, x32, x391000, x391001, x391002, x391003, x391004 => if x32 = true then (some false) else (if x7 = true then ((rule_Parse.f k x6).bind fun bt395 => (if bt395.2.2.2.2.2.2 = true then (if (!(bt395.1 == x391000) || (!(bt395.2.1 == x391001) || (!(bt395.2.2.1 == x391002) || (!(bt395.2.2.2.1 == x391003) || (!(bt395.2.2.2.2.1 == x391004)))))) = true then (epactlaw17_RuleBack.j1 k x1 x5 x6 true x391000 x391001 x391002 x391003 x391004) else (epactlaw17_RuleBack.j1 k x1 x5 x6 (bt395.2.2.2.2.2.1.toList != ([] : List UInt8)) x391000 x391001 x391002 x391003 x391004)) else (epactlaw17_RuleBack.j1 k x1 x5 x6 true x391000 x391001 x391002 x391003 x391004))) else (some x5))
def epactlaw17_RuleBack.j1 : Nat → Int → Bool → ByteArray → Bool → Int → Int → Int → Int → Int → Option (Bool)
  | 0, _, _, _, _, _, _, _, _, _ => none
  | k + 1, x1, x5, x6, x52, x391000, x391001, x391002, x391003, x391004 => if x52 = true then (some false) else (if x1 ≥ 46 then (if x1 ≤ 58 then (some x5) else ((some (([x1] : List Int) : List Int)).bind fun y403 => (if x6.size + (strOfNums y403).size ≤ 9223372036854775807 then ((rule_Parse.f k (x6 ++ (strOfNums y403))).bind fun bt406 => (if x5 = true then (if bt406.2.2.2.2.2.2 = true then (if (bt406.1 == x391000 && (bt406.2.1 == x391001 && (bt406.2.2.1 == x391002 && (bt406.2.2.2.1 == x391003 && (bt406.2.2.2.2.1 == x391004))))) = true then (some (bt406.2.2.2.2.2.1.toList == (strOfNums y403).toList)) else (some false)) else (some false)) else (some false))) else (none)))) else ((some (([x1] : List Int) : List Int)).bind fun y414 => (if x6.size + (strOfNums y414).size ≤ 9223372036854775807 then ((rule_Parse.f k (x6 ++ (strOfNums y414))).bind fun bt417 => (if x5 = true then (if bt417.2.2.2.2.2.2 = true then (if (bt417.1 == x391000 && (bt417.2.1 == x391001 && (bt417.2.2.1 == x391002 && (bt417.2.2.2.1 == x391003 && (bt417.2.2.2.2.1 == x391004))))) = true then (some (bt417.2.2.2.2.2.1.toList == (strOfNums y414).toList)) else (some false)) else (some false)) else (some false))) else (none))))
end
def epactlaw17_RuleBack.f (k : Nat) (a0_0 : Int) (a0_1 : Int) (a0_2 : Int) (a0_3 : Int) (a0_4 : Int) (a1 : Int) : Option (Bool) := (epactlaw17_smallF.f).bind fun t391 => ((rule_Text.f k a0_0 a0_1 a0_2 a0_3 a0_4).bind fun bt392 => ((rule_Right.f a0_0 a0_1 a0_2 a0_3 a0_4).bind fun t394 => (if (bt392.2 != t394) = true then (epactlaw17_RuleBack.j0 k a1 t391 bt392.1 bt392.2 true a0_0 a0_1 a0_2 a0_3 a0_4) else (if bt392.2 = true then (epactlaw17_RuleBack.j0 k a1 t391 bt392.1 bt392.2 false a0_0 a0_1 a0_2 a0_3 a0_4) else (epactlaw17_RuleBack.j0 k a1 t391 bt392.1 bt392.2 (bt392.1.toList != ([] : List UInt8)) a0_0 a0_1 a0_2 a0_3 a0_4)))))
theorem epactlaw17_RuleBack.mono_l : ∀ k, (∀ y0 y1 y2 y3 y4 y5 y6 y7 y8 y9, LeO (epactlaw17_RuleBack.j0 k y0 y1 y2 y3 y4 y5 y6 y7 y8 y9) (epactlaw17_RuleBack.j0 (k + 1) y0 y1 y2 y3 y4 y5 y6 y7 y8 y9)) ∧ (∀ y0 y1 y2 y3 y4 y5 y6 y7 y8, LeO (epactlaw17_RuleBack.j1 k y0 y1 y2 y3 y4 y5 y6 y7 y8) (epactlaw17_RuleBack.j1 (k + 1) y0 y1 y2 y3 y4 y5 y6 y7 y8))
  | 0 => ⟨fun _ _ _ _ _ _ _ _ _ _ r h => by simp [epactlaw17_RuleBack.j0] at h, fun _ _ _ _ _ _ _ _ _ r h => by simp [epactlaw17_RuleBack.j1] at h⟩
  | k + 1 => by
    obtain ⟨ih0, ih1⟩ := epactlaw17_RuleBack.mono_l k
    refine ⟨?_, ?_⟩
    · intro y0 y1 y2 y3 y4 y5 y6 y7 y8 y9
      unfold epactlaw17_RuleBack.j0
      repeat' first
      | (with_reducible exact ih0 _ _ _ _ _ _ _ _ _ _)
      | (with_reducible exact ih1 _ _ _ _ _ _ _ _ _)
      | (with_reducible exact rule_Parse.mono _ _)
      | (with_reducible exact rule_Text.mono _ _ _ _ _ _)
      | (with_reducible exact LeO.refl _)
      | (with_reducible exact LeO.none _)
      | (with_reducible refine LeO.ite ?_ ?_)
      | (with_reducible refine LeO.bind ?_ (fun _ => ?_))
      | exact ih0 _ _ _ _ _ _ _ _ _ _
      | exact ih1 _ _ _ _ _ _ _ _ _
      | exact rule_Parse.mono _ _
      | exact rule_Text.mono _ _ _ _ _ _
      | exact LeO.none _
      | refine LeO.ite ?_ ?_
      | refine LeO.bind ?_ (fun _ => ?_)
    · intro y0 y1 y2 y3 y4 y5 y6 y7 y8
      unfold epactlaw17_RuleBack.j1
      repeat' first
      | (with_reducible exact ih0 _ _ _ _ _ _ _ _ _ _)
      | (with_reducible exact ih1 _ _ _ _ _ _ _ _ _)
      | (with_reducible exact rule_Parse.mono _ _)
      | (with_reducible exact rule_Text.mono _ _ _ _ _ _)
      | (with_reducible exact LeO.refl _)
      | (with_reducible exact LeO.none _)
      | (with_reducible refine LeO.ite ?_ ?_)
      | (with_reducible refine LeO.bind ?_ (fun _ => ?_))
      | exact ih0 _ _ _ _ _ _ _ _ _ _
      | exact ih1 _ _ _ _ _ _ _ _ _
      | exact rule_Parse.mono _ _
      | exact rule_Text.mono _ _ _ _ _ _
      | exact LeO.none _
      | refine LeO.ite ?_ ?_
      | refine LeO.bind ?_ (fun _ => ?_)
theorem epactlaw17_RuleBack.mono : ∀ a0 a1 a2 a3 a4 a5 k, LeO (epactlaw17_RuleBack.f k a0 a1 a2 a3 a4 a5) (epactlaw17_RuleBack.f (k + 1) a0 a1 a2 a3 a4 a5) := by
  intro a0 a1 a2 a3 a4 a5 k
  obtain ⟨ih0, ih1⟩ := epactlaw17_RuleBack.mono_l k
  unfold epactlaw17_RuleBack.f
  repeat' first
      | (with_reducible exact ih0 _ _ _ _ _ _ _ _ _ _)
      | (with_reducible exact ih1 _ _ _ _ _ _ _ _ _)
      | (with_reducible exact rule_Parse.mono _ _)
      | (with_reducible exact rule_Text.mono _ _ _ _ _ _)
      | (with_reducible exact LeO.refl _)
      | (with_reducible exact LeO.none _)
      | (with_reducible refine LeO.ite ?_ ?_)
      | (with_reducible refine LeO.bind ?_ (fun _ => ?_))
      | exact ih0 _ _ _ _ _ _ _ _ _ _
      | exact ih1 _ _ _ _ _ _ _ _ _
      | exact rule_Parse.mono _ _
      | exact rule_Text.mono _ _ _ _ _ _
      | exact LeO.none _
      | refine LeO.ite ?_ ?_
      | refine LeO.bind ?_ (fun _ => ?_)
set_option maxHeartbeats 8000000 in
set_option maxRecDepth 100000 in
theorem epactlaw17_RuleBack.calls (k : Nat) (a0_0 : Int) (a0_1 : Int) (a0_2 : Int) (a0_3 : Int) (a0_4 : Int) (a1 : Int) (w : World) (hG : GW w) (h : epactlaw17_RuleBack.f k a0_0 a0_1 a0_2 a0_3 a0_4 a1 = some true) :
    Calls Tryd.prog 8 #[.agg #[.int .i64 a0_0, .int .i64 a0_1, .int .i64 a0_2, .int .i64 a0_3, .int .i64 a0_4], .int .u8 a1] w fun e w' => e = .returned (.bool true) ∧ Below w.heap.size w w' := by
  have hu42 := Tryd.underlying42
  have HB := Aside0.mk (Below.refl w.heap.size w)
  have H : ((epactlaw17_smallF.f).bind fun t391 => ((rule_Text.f k a0_0 a0_1 a0_2 a0_3 a0_4).bind fun bt392 => ((rule_Right.f a0_0 a0_1 a0_2 a0_3 a0_4).bind fun t394 => (if (bt392.2 != t394) = true then (epactlaw17_RuleBack.j0 k a1 t391 bt392.1 bt392.2 true a0_0 a0_1 a0_2 a0_3 a0_4) else (if bt392.2 = true then (epactlaw17_RuleBack.j0 k a1 t391 bt392.1 bt392.2 false a0_0 a0_1 a0_2 a0_3 a0_4) else (epactlaw17_RuleBack.j0 k a1 t391 bt392.1 bt392.2 (bt392.1.toList != ([] : List UInt8)) a0_0 a0_1 a0_2 a0_3 a0_4)))))) = some true := h
  clear h
  replace H := Option.bind_eq_some_iff.mp H
  obtain ⟨t391, A30, H⟩ := H
  replace H : ((rule_Text.f k a0_0 a0_1 a0_2 a0_3 a0_4).bind fun bt392 => ((rule_Right.f a0_0 a0_1 a0_2 a0_3 a0_4).bind fun t394 => (if (bt392.2 != t394) = true then (epactlaw17_RuleBack.j0 k a1 t391 bt392.1 bt392.2 true a0_0 a0_1 a0_2 a0_3 a0_4) else (if bt392.2 = true then (epactlaw17_RuleBack.j0 k a1 t391 bt392.1 bt392.2 false a0_0 a0_1 a0_2 a0_3 a0_4) else (epactlaw17_RuleBack.j0 k a1 t391 bt392.1 bt392.2 (bt392.1.toList != ([] : List UInt8)) a0_0 a0_1 a0_2 a0_3 a0_4))))) = some true := H
  have A3 := Aside0.mk A30
  clear A30
  replace H := Option.bind_eq_some_iff.mp H
  obtain ⟨⟨t392, t393⟩, A40, H⟩ := H
  replace H : ((rule_Right.f a0_0 a0_1 a0_2 a0_3 a0_4).bind fun t394 => (if (t393 != t394) = true then (epactlaw17_RuleBack.j0 k a1 t391 t392 t393 true a0_0 a0_1 a0_2 a0_3 a0_4) else (if t393 = true then (epactlaw17_RuleBack.j0 k a1 t391 t392 t393 false a0_0 a0_1 a0_2 a0_3 a0_4) else (epactlaw17_RuleBack.j0 k a1 t391 t392 t393 (t392.toList != ([] : List UInt8)) a0_0 a0_1 a0_2 a0_3 a0_4)))) = some true := H
  have A4 := Aside0.mk A40
  clear A40
  have HC5 := Aside0.mk H
  clear H
  go_enter Tryd.func8, Tryd.ntmps8
  go_upto_region 3 with (first | ((with_reducible refine gate_dst (N := 2) rfl ?_); refine box_event ?hg (N := 2) ?hd (cs := #[.int .i64 a0_0, .int .i64 a0_1, .int .i64 a0_2, .int .i64 a0_3, .int .i64 a0_4]) (t := 42) ?hr ?_; (case hd => rfl); (case hg => rfl); (case hr => first | (go_simp; done) | (go_simp; rfl)); intro gb390 hg w6 hbox hb; have n0_ := Aside0.mk (below_step (by repeat (first | (with_reducible first | exact HB.out | apply below_alloc | apply pw_below_drewN | apply below_drew1) | exact HB.out)) hb); have n1_ := Aside0.mk (hbox); have n2_ := Aside0.mk ((by rw [hg]; exact (below_size (by repeat (first | (with_reducible first | exact HB.out | apply below_alloc | apply pw_below_drewN | apply below_drew1) | exact HB.out))) : w.heap.size ≤ gb390)); have n3_ := Aside0.mk ((by rw [hg]; exact (below_size (by repeat (first | (with_reducible first | exact HB.out | apply below_alloc | apply pw_below_drewN | apply below_drew1) | exact HB.out))) : w.heap.size ≤ gb390)); clear HB; have HB := n0_; have BK390 := n1_; have GW390 := n2_; have GE390 := n3_; clear n0_ n1_ n2_ n3_; clear hb hbox hg) | ((with_reducible refine gate_callee (f := 21) rfl ?_); refine goesL_ (some 15) rfl rfl Tryd.func21 (by kernel_rfl) rfl #[] rfl (by (try simp only [List.map_toArray, List.map_cons, List.map_nil]); first | done | rfl | (simp only [List.length_drop, List.length_take]; rfl)) ?_; (with_reducible refine (epactlaw17_smallF.calls  t391 _ ?side707 A3.out).mono ?_); (case side707 => first | exact hG | exact hG.at1 HB | exact hG.drewN _ | (refine hG.below ?_; repeat (first | (with_reducible first | exact HB.out | apply below_alloc | apply pw_below_drewN | apply below_drew1 | refine below_set ?_ GE390.out) | exact HB.out))); rintro e w8 ⟨rfl, hb⟩; refine ⟨_, rfl, ?_⟩; have n0_ := Aside0.mk (blk_below (g := gb390) (o := .cells #[.int .i64 a0_0, .int .i64 a0_1, .int .i64 a0_2, .int .i64 a0_3, .int .i64 a0_4] 42 (0, 0)) (by (with_reducible repeat (first | refine blk_drewN ?_ _ | refine blk_drew ?_ | refine blk_alloc ?_ _)); exact BK390.out) hb); have n1_ := Aside0.mk (below_step (by repeat (first | (with_reducible first | exact HB.out | apply below_alloc | apply pw_below_drewN | apply below_drew1 | refine below_set ?_ GE390.out) | exact HB.out)) hb); clear BK390; clear HB; have BK390 := n0_; have HB := n1_; clear n0_ n1_; (try clear hb); (try clear hb2); (try clear hk); (try clear hi); have hcz9_0 : w8.cell? ⟨gb390, 0, none⟩ = some (.int .i64 a0_0) := (blk_cell BK390.out 0).trans rfl; have hcz9_1 : w8.cell? ⟨gb390, 1, none⟩ = some (.int .i64 a0_1) := (blk_cell BK390.out 1).trans rfl; have hcz9_2 : w8.cell? ⟨gb390, 2, none⟩ = some (.int .i64 a0_2) := (blk_cell BK390.out 2).trans rfl; have hcz9_3 : w8.cell? ⟨gb390, 3, none⟩ = some (.int .i64 a0_3) := (blk_cell BK390.out 3).trans rfl; have hcz9_4 : w8.cell? ⟨gb390, 4, none⟩ = some (.int .i64 a0_4) := (blk_cell BK390.out 4).trans rfl; have hfz9_0 := blk_frozen BK390.out 0; have hfz9_1 := blk_frozen BK390.out 1; have hfz9_2 := blk_frozen BK390.out 2; have hfz9_3 := blk_frozen BK390.out 3; have hfz9_4 := blk_frozen BK390.out 4) | ((with_reducible refine gate_callee (f := 26) rfl ?_); refine goesL_ (some 18) rfl rfl Tryd.func26 (by kernel_rfl) rfl #[.agg #[.int .i64 a0_0, .int .i64 a0_1, .int .i64 a0_2, .int .i64 a0_3, .int .i64 a0_4]] rfl (by (try simp only [List.map_toArray, List.map_cons, List.map_nil]); first | done | rfl | (simp only [List.length_drop, List.length_take]; rfl)) ?_; (with_reducible refine (rule_Text.calls k a0_0 a0_1 a0_2 a0_3 a0_4 t392 t393 _ ?side710 A4.out).mono ?_); (case side710 => first | exact hG | exact hG.at1 HB | exact hG.drewN _ | (refine hG.below ?_; repeat (first | (with_reducible first | exact HB.out | apply below_alloc | apply pw_below_drewN | apply below_drew1 | refine below_set ?_ GE390.out) | exact HB.out))); rintro e w11 ⟨rfl, hb⟩; refine ⟨_, rfl, ?_⟩; have n0_ := Aside0.mk (blk_below (g := gb390) (o := .cells #[.int .i64 a0_0, .int .i64 a0_1, .int .i64 a0_2, .int .i64 a0_3, .int .i64 a0_4] 42 (0, 0)) (by (with_reducible repeat (first | refine blk_drewN ?_ _ | refine blk_drew ?_ | refine blk_alloc ?_ _)); exact BK390.out) hb); have n1_ := Aside0.mk (below_step (by repeat (first | (with_reducible first | exact HB.out | apply below_alloc | apply pw_below_drewN | apply below_drew1 | refine below_set ?_ GE390.out) | exact HB.out)) hb); clear BK390; clear HB; have BK390 := n0_; have HB := n1_; clear n0_ n1_; (try clear hb); (try clear hb2); (try clear hk); (try clear hi)))
  (try simp only [Act.put, List.setIfInBounds_toArray, List.set_cons_zero, List.set_cons_succ])
  go_cut [32] (fun v32 wc => ∃ (kq : Nat) (x32_4 : Bool), v32 = .bool x32_4 ∧ Aside0 (epactlaw17_RuleBack.j0 kq a1 t391 t392 t393 x32_4 a0_0 a0_1 a0_2 a0_3 a0_4 = some true) ∧ Aside0 (kq ≤ k) ∧ Aside0 (wc.heap[gb390]? = some (.cells #[.int .i64 a0_0, .int .i64 a0_1, .int .i64 a0_2, .int .i64 a0_3, .int .i64 a0_4] 42 (0, 0))) ∧ Aside0 (Below w.heap.size w wc))
  case first =>
    have H := HC5.out
    clear HC5
    replace H := Option.bind_eq_some_iff.mp H
    obtain ⟨t394, A120, H⟩ := H
    replace H : (if (t393 != t394) = true then (epactlaw17_RuleBack.j0 k a1 t391 t392 t393 true a0_0 a0_1 a0_2 a0_3 a0_4) else (if t393 = true then (epactlaw17_RuleBack.j0 k a1 t391 t392 t393 false a0_0 a0_1 a0_2 a0_3 a0_4) else (epactlaw17_RuleBack.j0 k a1 t391 t392 t393 (t392.toList != ([] : List UInt8)) a0_0 a0_1 a0_2 a0_3 a0_4))) = some true := H
    have A12 := Aside0.mk A120
    clear A120
    by_cases c13 : (t393 != t394) = true
    · rw [if_pos c13] at H
      have c13b0 : (t393 != t394) = true := c13
      (try (have c13b1 : decide (t393 = t394) = false := by simpa using c13))
      (try (have c13b2 : (t393 == t394) = false := by simpa using c13))
      (try (have c13b3 : ¬ (t393 = t394) := by simpa using c13))
      clear c13
      (first | rw [c13b0] | (simp only [i64_w, i32_w]; rw [c13b0]) | skip)
      have H' := Aside0.mk H
      clear H
      have hcz14_0 : w11.cell? ⟨gb390, 0, none⟩ = some (.int .i64 a0_0) := (blk_cell BK390.out 0).trans rfl
      have hcz14_1 : w11.cell? ⟨gb390, 1, none⟩ = some (.int .i64 a0_1) := (blk_cell BK390.out 1).trans rfl
      have hcz14_2 : w11.cell? ⟨gb390, 2, none⟩ = some (.int .i64 a0_2) := (blk_cell BK390.out 2).trans rfl
      have hcz14_3 : w11.cell? ⟨gb390, 3, none⟩ = some (.int .i64 a0_3) := (blk_cell BK390.out 3).trans rfl
      have hcz14_4 : w11.cell? ⟨gb390, 4, none⟩ = some (.int .i64 a0_4) := (blk_cell BK390.out 4).trans rfl
      have hfz14_0 := blk_frozen BK390.out 0
      have hfz14_1 := blk_frozen BK390.out 1
      have hfz14_2 := blk_frozen BK390.out 2
      have hfz14_3 := blk_frozen BK390.out 3
      have hfz14_4 := blk_frozen BK390.out 4
      go_wp2_with (first | ((with_reducible refine gate_callee (f := 34) rfl ?_); refine goesL_ (some 23) rfl rfl Tryd.func34 (by kernel_rfl) rfl #[.agg #[.int .i64 a0_0, .int .i64 a0_1, .int .i64 a0_2, .int .i64 a0_3, .int .i64 a0_4]] rfl (by (try simp only [List.map_toArray, List.map_cons, List.map_nil]); first | done | rfl | (simp only [List.length_drop, List.length_take]; rfl)) ?_; (with_reducible refine (rule_Right.calls a0_0 a0_1 a0_2 a0_3 a0_4 t394 _ ?side715 A12.out).mono ?_); (case side715 => first | exact hG | exact hG.at1 HB | exact hG.drewN _ | (refine hG.below ?_; repeat (first | (with_reducible first | exact HB.out | apply below_alloc | apply pw_below_drewN | apply below_drew1 | refine below_set ?_ GE390.out) | exact HB.out))); rintro e w16 ⟨rfl, hb⟩; refine ⟨_, rfl, ?_⟩; have n0_ := Aside0.mk (blk_below (g := gb390) (o := .cells #[.int .i64 a0_0, .int .i64 a0_1, .int .i64 a0_2, .int .i64 a0_3, .int .i64 a0_4] 42 (0, 0)) (by (with_reducible repeat (first | refine blk_drewN ?_ _ | refine blk_drew ?_ | refine blk_alloc ?_ _)); exact BK390.out) hb); have n1_ := Aside0.mk (below_step (by repeat (first | (with_reducible first | exact HB.out | apply below_alloc | apply pw_below_drewN | apply below_drew1 | refine below_set ?_ GE390.out) | exact HB.out)) hb); clear BK390; clear HB; have BK390 := n0_; have HB := n1_; clear n0_ n1_; (try clear hb); (try clear hb2); (try clear hk); (try clear hi)))
      go_meet
      case rel => exact ⟨_, (true), (by first | rfl | (simp; done) | (simp [*]; done) | (refine congrArg _ ?_; rw [Bool.eq_iff_iff]; simp; done)), H', ⟨by first | omega | exact Nat.le_refl _⟩, ⟨by (with_reducible repeat (first | refine blk_drewN ?_ _ | refine blk_drew ?_ | refine blk_alloc ?_ _)); exact BK390.out⟩, ⟨by repeat (first | (with_reducible first | exact HB.out | apply below_alloc | apply pw_below_drewN | apply below_drew1 | refine below_set ?_ GE390.out) | exact HB.out)⟩⟩
    · rw [if_neg c13] at H
      have c13b0 : (t393 != t394) = false := by simpa using c13
      (try (have c13b1 : decide (t393 = t394) = true := by simpa using c13))
      (try (have c13b2 : (t393 == t394) = true := by simpa using c13))
      clear c13
      (first | rw [c13b0] | (simp only [i64_w, i32_w]; rw [c13b0]) | skip)
      by_cases c17 : t393 = true
      · subst c17
        have H1 : (epactlaw17_RuleBack.j0 k a1 t391 t392 true false a0_0 a0_1 a0_2 a0_3 a0_4) = some true := by rw [if_pos rfl] at H; exact H
        clear H
        have H := H1
        clear H1
        have H' := Aside0.mk H
        clear H
        have hcz18_0 : w11.cell? ⟨gb390, 0, none⟩ = some (.int .i64 a0_0) := (blk_cell BK390.out 0).trans rfl
        have hcz18_1 : w11.cell? ⟨gb390, 1, none⟩ = some (.int .i64 a0_1) := (blk_cell BK390.out 1).trans rfl
        have hcz18_2 : w11.cell? ⟨gb390, 2, none⟩ = some (.int .i64 a0_2) := (blk_cell BK390.out 2).trans rfl
        have hcz18_3 : w11.cell? ⟨gb390, 3, none⟩ = some (.int .i64 a0_3) := (blk_cell BK390.out 3).trans rfl
        have hcz18_4 : w11.cell? ⟨gb390, 4, none⟩ = some (.int .i64 a0_4) := (blk_cell BK390.out 4).trans rfl
        have hfz18_0 := blk_frozen BK390.out 0
        have hfz18_1 := blk_frozen BK390.out 1
        have hfz18_2 := blk_frozen BK390.out 2
        have hfz18_3 := blk_frozen BK390.out 3
        have hfz18_4 := blk_frozen BK390.out 4
        go_wp2_with (first | ((with_reducible refine gate_callee (f := 34) rfl ?_); refine goesL_ (some 23) rfl rfl Tryd.func34 (by kernel_rfl) rfl #[.agg #[.int .i64 a0_0, .int .i64 a0_1, .int .i64 a0_2, .int .i64 a0_3, .int .i64 a0_4]] rfl (by (try simp only [List.map_toArray, List.map_cons, List.map_nil]); first | done | rfl | (simp only [List.length_drop, List.length_take]; rfl)) ?_; (with_reducible refine (rule_Right.calls a0_0 a0_1 a0_2 a0_3 a0_4 t394 _ ?side719 A12.out).mono ?_); (case side719 => first | exact hG | exact hG.at1 HB | exact hG.drewN _ | (refine hG.below ?_; repeat (first | (with_reducible first | exact HB.out | apply below_alloc | apply pw_below_drewN | apply below_drew1 | refine below_set ?_ GE390.out) | exact HB.out))); rintro e w20 ⟨rfl, hb⟩; refine ⟨_, rfl, ?_⟩; have n0_ := Aside0.mk (blk_below (g := gb390) (o := .cells #[.int .i64 a0_0, .int .i64 a0_1, .int .i64 a0_2, .int .i64 a0_3, .int .i64 a0_4] 42 (0, 0)) (by (with_reducible repeat (first | refine blk_drewN ?_ _ | refine blk_drew ?_ | refine blk_alloc ?_ _)); exact BK390.out) hb); have n1_ := Aside0.mk (below_step (by repeat (first | (with_reducible first | exact HB.out | apply below_alloc | apply pw_below_drewN | apply below_drew1 | refine below_set ?_ GE390.out) | exact HB.out)) hb); clear BK390; clear HB; have BK390 := n0_; have HB := n1_; clear n0_ n1_; (try clear hb); (try clear hb2); (try clear hk); (try clear hi)))
        go_meet
        case rel => exact ⟨_, (false), (by first | rfl | (simp; done) | (simp [*]; done) | (refine congrArg _ ?_; rw [Bool.eq_iff_iff]; simp; done)), H', ⟨by first | omega | exact Nat.le_refl _⟩, ⟨by (with_reducible repeat (first | refine blk_drewN ?_ _ | refine blk_drew ?_ | refine blk_alloc ?_ _)); exact BK390.out⟩, ⟨by repeat (first | (with_reducible first | exact HB.out | apply below_alloc | apply pw_below_drewN | apply below_drew1 | refine below_set ?_ GE390.out) | exact HB.out)⟩⟩
      · replace c17 := Bool.eq_false_iff.mpr c17
        subst c17
        have H1 : (epactlaw17_RuleBack.j0 k a1 t391 t392 false (t392.toList != ([] : List UInt8)) a0_0 a0_1 a0_2 a0_3 a0_4) = some true := by rw [if_neg (show ¬ (false = true) by decide)] at H; exact H
        clear H
        have H := H1
        clear H1
        have H' := Aside0.mk H
        clear H
        have hcz21_0 : w11.cell? ⟨gb390, 0, none⟩ = some (.int .i64 a0_0) := (blk_cell BK390.out 0).trans rfl
        have hcz21_1 : w11.cell? ⟨gb390, 1, none⟩ = some (.int .i64 a0_1) := (blk_cell BK390.out 1).trans rfl
        have hcz21_2 : w11.cell? ⟨gb390, 2, none⟩ = some (.int .i64 a0_2) := (blk_cell BK390.out 2).trans rfl
        have hcz21_3 : w11.cell? ⟨gb390, 3, none⟩ = some (.int .i64 a0_3) := (blk_cell BK390.out 3).trans rfl
        have hcz21_4 : w11.cell? ⟨gb390, 4, none⟩ = some (.int .i64 a0_4) := (blk_cell BK390.out 4).trans rfl
        have hfz21_0 := blk_frozen BK390.out 0
        have hfz21_1 := blk_frozen BK390.out 1
        have hfz21_2 := blk_frozen BK390.out 2
        have hfz21_3 := blk_frozen BK390.out 3
        have hfz21_4 := blk_frozen BK390.out 4
        go_wp2_with (first | ((with_reducible refine gate_callee (f := 34) rfl ?_); refine goesL_ (some 23) rfl rfl Tryd.func34 (by kernel_rfl) rfl #[.agg #[.int .i64 a0_0, .int .i64 a0_1, .int .i64 a0_2, .int .i64 a0_3, .int .i64 a0_4]] rfl (by (try simp only [List.map_toArray, List.map_cons, List.map_nil]); first | done | rfl | (simp only [List.length_drop, List.length_take]; rfl)) ?_; (with_reducible refine (rule_Right.calls a0_0 a0_1 a0_2 a0_3 a0_4 t394 _ ?side722 A12.out).mono ?_); (case side722 => first | exact hG | exact hG.at1 HB | exact hG.drewN _ | (refine hG.below ?_; repeat (first | (with_reducible first | exact HB.out | apply below_alloc | apply pw_below_drewN | apply below_drew1 | refine below_set ?_ GE390.out) | exact HB.out))); rintro e w23 ⟨rfl, hb⟩; refine ⟨_, rfl, ?_⟩; have n0_ := Aside0.mk (blk_below (g := gb390) (o := .cells #[.int .i64 a0_0, .int .i64 a0_1, .int .i64 a0_2, .int .i64 a0_3, .int .i64 a0_4] 42 (0, 0)) (by (with_reducible repeat (first | refine blk_drewN ?_ _ | refine blk_drew ?_ | refine blk_alloc ?_ _)); exact BK390.out) hb); have n1_ := Aside0.mk (below_step (by repeat (first | (with_reducible first | exact HB.out | apply below_alloc | apply pw_below_drewN | apply below_drew1 | refine below_set ?_ GE390.out) | exact HB.out)) hb); clear BK390; clear HB; have BK390 := n0_; have HB := n1_; clear n0_ n1_; (try clear hb); (try clear hb2); (try clear hk); (try clear hi)))
        go_meet
        case rel => exact ⟨_, ((t392.toList != ([] : List UInt8))), (by first | rfl | (simp; done) | (simp [*]; done) | (refine congrArg _ ?_; rw [Bool.eq_iff_iff]; simp; done)), H', ⟨by first | omega | exact Nat.le_refl _⟩, ⟨by (with_reducible repeat (first | refine blk_drewN ?_ _ | refine blk_drew ?_ | refine blk_alloc ?_ _)); exact BK390.out⟩, ⟨by repeat (first | (with_reducible first | exact HB.out | apply below_alloc | apply pw_below_drewN | apply below_drew1 | refine below_set ?_ GE390.out) | exact HB.out)⟩⟩
  case rest =>
    clear HC5
    try clear c1
    try clear c2
    try clear p2
    try clear c3
    try clear c8
    try clear c13
    try clear c13b0
    try clear c13b1
    try clear c13b2
    try clear c17
    try clear c21
    try clear hcz14_0
    try clear hcz14_1
    try clear hcz14_2
    try clear hcz14_3
    try clear hcz14_4
    try clear hcz18_0
    try clear hcz18_1
    try clear hcz18_2
    try clear hcz18_3
    try clear hcz18_4
    try clear hcz21_0
    try clear hcz21_1
    try clear hcz21_2
    try clear hcz21_3
    try clear hcz21_4
    try clear hcz9_0
    try clear hcz9_1
    try clear hcz9_2
    try clear hcz9_3
    try clear hcz9_4
    try clear hfz14_0
    try clear hfz14_1
    try clear hfz14_2
    try clear hfz14_3
    try clear hfz14_4
    try clear hfz18_0
    try clear hfz18_1
    try clear hfz18_2
    try clear hfz18_3
    try clear hfz18_4
    try clear hfz21_0
    try clear hfz21_1
    try clear hfz21_2
    try clear hfz21_3
    try clear hfz21_4
    try clear hfz9_0
    try clear hfz9_1
    try clear hfz9_2
    try clear hfz9_3
    try clear hfz9_4
    obtain ⟨kq, x32_4, rfl, HA, HJ4, BK390, HB⟩ := hcut
    cases kq with
    | zero => exact absurd HA.out (by simp [epactlaw17_RuleBack.j0])
    | succ kj4 =>
      have H := HA.out
      clear HA
      simp only [epactlaw17_RuleBack.j0] at H
      by_cases c24 : x32_4 = true
      · subst c24
        have H1 : (some false) = some true := by rw [if_pos rfl] at H; exact H
        clear H
        have H := H1
        clear H1
        exact absurd H (by simp)
      · replace c24 := Bool.eq_false_iff.mpr c24
        subst c24
        have H1 : (if t393 = true then ((rule_Parse.f kj4 t392).bind fun bt395 => (if bt395.2.2.2.2.2.2 = true then (if (!(bt395.1 == a0_0) || (!(bt395.2.1 == a0_1) || (!(bt395.2.2.1 == a0_2) || (!(bt395.2.2.2.1 == a0_3) || (!(bt395.2.2.2.2.1 == a0_4)))))) = true then (epactlaw17_RuleBack.j1 kj4 a1 t391 t392 true a0_0 a0_1 a0_2 a0_3 a0_4) else (epactlaw17_RuleBack.j1 kj4 a1 t391 t392 (bt395.2.2.2.2.2.1.toList != ([] : List UInt8)) a0_0 a0_1 a0_2 a0_3 a0_4)) else (epactlaw17_RuleBack.j1 kj4 a1 t391 t392 true a0_0 a0_1 a0_2 a0_3 a0_4))) else (some t391)) = some true := by rw [if_neg (show ¬ (false = true) by decide)] at H; exact H
        clear H
        have H := H1
        clear H1
        by_cases c25 : t393 = true
        · subst c25
          have H1 : ((rule_Parse.f kj4 t392).bind fun bt395 => (if bt395.2.2.2.2.2.2 = true then (if (!(bt395.1 == a0_0) || (!(bt395.2.1 == a0_1) || (!(bt395.2.2.1 == a0_2) || (!(bt395.2.2.2.1 == a0_3) || (!(bt395.2.2.2.2.1 == a0_4)))))) = true then (epactlaw17_RuleBack.j1 kj4 a1 t391 t392 true a0_0 a0_1 a0_2 a0_3 a0_4) else (epactlaw17_RuleBack.j1 kj4 a1 t391 t392 (bt395.2.2.2.2.2.1.toList != ([] : List UInt8)) a0_0 a0_1 a0_2 a0_3 a0_4)) else (epactlaw17_RuleBack.j1 kj4 a1 t391 t392 true a0_0 a0_1 a0_2 a0_3 a0_4))) = some true := by rw [if_pos rfl] at H; exact H
          clear H
          have H := H1
          clear H1
          replace H := Option.bind_eq_some_iff.mp H
          obtain ⟨⟨t395, t396, t397, t398, t399, t400, t401⟩, A260, H⟩ := H
          replace H : (if t401 = true then (if (!(t395 == a0_0) || (!(t396 == a0_1) || (!(t397 == a0_2) || (!(t398 == a0_3) || (!(t399 == a0_4)))))) = true then (epactlaw17_RuleBack.j1 kj4 a1 t391 t392 true a0_0 a0_1 a0_2 a0_3 a0_4) else (epactlaw17_RuleBack.j1 kj4 a1 t391 t392 (t400.toList != ([] : List UInt8)) a0_0 a0_1 a0_2 a0_3 a0_4)) else (epactlaw17_RuleBack.j1 kj4 a1 t391 t392 true a0_0 a0_1 a0_2 a0_3 a0_4)) = some true := H
          have A26 := Aside0.mk A260
          clear A260
          have HC27 := Aside0.mk H
          clear H
          go_upto_region 8 with (first | ((with_reducible refine gate_callee (f := 28) rfl ?_); refine goesL_ (some 38) rfl rfl Tryd.func28 (by kernel_rfl) rfl #[.string t392] rfl (by (try simp only [List.map_toArray, List.map_cons, List.map_nil]); first | done | rfl | (simp only [List.length_drop, List.length_take]; rfl)) ?_; (with_reducible refine (rule_Parse.calls kj4 t392 t395 t396 t397 t398 t399 t400 t401 _ ?side728 A26.out).mono ?_); (case side728 => first | exact hG | exact hG.at1 HB | exact hG.drewN _ | (refine hG.below ?_; repeat (first | (with_reducible first | exact HB.out | apply below_alloc | apply pw_below_drewN | apply below_drew1 | refine below_set ?_ GE390.out) | exact HB.out))); rintro e w29 ⟨rfl, hb⟩; refine ⟨_, rfl, ?_⟩; have n0_ := Aside0.mk (blk_below (g := gb390) (o := .cells #[.int .i64 a0_0, .int .i64 a0_1, .int .i64 a0_2, .int .i64 a0_3, .int .i64 a0_4] 42 (0, 0)) (by (with_reducible repeat (first | refine blk_drewN ?_ _ | refine blk_drew ?_ | refine blk_alloc ?_ _)); exact BK390.out) hb); have n1_ := Aside0.mk (below_step (by repeat (first | (with_reducible first | exact HB.out | apply below_alloc | apply pw_below_drewN | apply below_drew1 | refine below_set ?_ GE390.out) | exact HB.out)) hb); clear BK390; clear HB; have BK390 := n0_; have HB := n1_; clear n0_ n1_; (try clear hb); (try clear hb2); (try clear hk); (try clear hi)) | ((with_reducible refine gate_dst (N := 8) rfl ?_); refine box_event ?hg (N := 8) ?hd (cs := #[.int .i64 0, .int .i64 0, .int .i64 0, .int .i64 0, .int .i64 0]) (t := 42) ?hr ?_; (case hd => rfl); (case hg => rfl); (case hr => first | (go_simp; done) | (go_simp; rfl)); intro gb402 hg w30 hbox hb; have n0_ := Aside0.mk (blk_below (g := gb390) (o := .cells #[.int .i64 a0_0, .int .i64 a0_1, .int .i64 a0_2, .int .i64 a0_3, .int .i64 a0_4] 42 (0, 0)) (by (with_reducible repeat (first | refine blk_drewN ?_ _ | refine blk_drew ?_ | refine blk_alloc ?_ _)); exact BK390.out) hb); have n1_ := Aside0.mk (below_step (by repeat (first | (with_reducible first | exact HB.out | apply below_alloc | apply pw_below_drewN | apply below_drew1 | refine below_set ?_ GE390.out) | exact HB.out)) hb); have n2_ := Aside0.mk (hbox); have n3_ := Aside0.mk ((by rw [hg]; exact (below_size (by repeat (first | (with_reducible first | exact HB.out | apply below_alloc | apply pw_below_drewN | apply below_drew1 | refine below_set ?_ GE390.out) | exact HB.out))) : w.heap.size ≤ gb402)); have n4_ := Aside0.mk ((by rw [hg]; exact (below_size (by repeat (first | (with_reducible first | exact HB.out | apply below_alloc | apply pw_below_drewN | apply below_drew1 | refine below_set ?_ GE390.out) | exact HB.out))) : w.heap.size ≤ gb402)); have n5_ := Aside0.mk ((by rw [hg]; exact Nat.ne_of_lt (blk_lt (g := gb390) (o := .cells #[.int .i64 a0_0, .int .i64 a0_1, .int .i64 a0_2, .int .i64 a0_3, .int .i64 a0_4] 42 (0, 0)) (by (with_reducible repeat (first | refine blk_drewN ?_ _ | refine blk_drew ?_ | refine blk_alloc ?_ _)); exact BK390.out)) : gb390 ≠ gb402)); have n6_ := Aside0.mk ((by rw [hg]; exact Nat.ne_of_gt (blk_lt (g := gb390) (o := .cells #[.int .i64 a0_0, .int .i64 a0_1, .int .i64 a0_2, .int .i64 a0_3, .int .i64 a0_4] 42 (0, 0)) (by (with_reducible repeat (first | refine blk_drewN ?_ _ | refine blk_drew ?_ | refine blk_alloc ?_ _)); exact BK390.out)) : gb402 ≠ gb390)); clear BK390; clear HB; have BK390 := n0_; have HB := n1_; have BK402 := n2_; have GW402 := n3_; have GE402 := n4_; have NB390_402 := n5_; have NB402_390 := n6_; clear n0_ n1_ n2_ n3_ n4_ n5_ n6_; clear hb hbox hg; have hnb31 := NB402_390.out; have hnc31 := NB390_402.out; have hcz32_0 : w30.cell? ⟨gb402, 0, none⟩ = some (.int .i64 0) := (blk_cell BK402.out 0).trans rfl; have hcz32_1 : w30.cell? ⟨gb402, 1, none⟩ = some (.int .i64 0) := (blk_cell BK402.out 1).trans rfl; have hcz32_2 : w30.cell? ⟨gb402, 2, none⟩ = some (.int .i64 0) := (blk_cell BK402.out 2).trans rfl; have hcz32_3 : w30.cell? ⟨gb402, 3, none⟩ = some (.int .i64 0) := (blk_cell BK402.out 3).trans rfl; have hcz32_4 : w30.cell? ⟨gb402, 4, none⟩ = some (.int .i64 0) := (blk_cell BK402.out 4).trans rfl; have hfz32_0 := blk_frozen BK402.out 0; have hfz32_1 := blk_frozen BK402.out 1; have hfz32_2 := blk_frozen BK402.out 2; have hfz32_3 := blk_frozen BK402.out 3; have hfz32_4 := blk_frozen BK402.out 4))
          (try simp only [Act.put, List.setIfInBounds_toArray, List.set_cons_zero, List.set_cons_succ])
          go_cut [52] (fun v52 wc => ∃ (kq : Nat) (x52_26 : Bool), v52 = .bool x52_26 ∧ Aside0 (epactlaw17_RuleBack.j1 kq a1 t391 t392 x52_26 a0_0 a0_1 a0_2 a0_3 a0_4 = some true) ∧ Aside0 (kq ≤ kj4) ∧ Aside0 (wc.heap[gb390]? = some (.cells #[.int .i64 a0_0, .int .i64 a0_1, .int .i64 a0_2, .int .i64 a0_3, .int .i64 a0_4] 42 (0, 0))) ∧ Aside0 (wc.heap[gb402]? = some (.cells #[.int .i64 t395, .int .i64 t396, .int .i64 t397, .int .i64 t398, .int .i64 t399] 42 (0, 0))) ∧ Aside0 (Below w.heap.size w wc))
          case first =>
            have H := HC27.out
            clear HC27
            by_cases c33 : t401 = true
            · subst c33
              have H1 : (if (!(t395 == a0_0) || (!(t396 == a0_1) || (!(t397 == a0_2) || (!(t398 == a0_3) || (!(t399 == a0_4)))))) = true then (epactlaw17_RuleBack.j1 kj4 a1 t391 t392 true a0_0 a0_1 a0_2 a0_3 a0_4) else (epactlaw17_RuleBack.j1 kj4 a1 t391 t392 (t400.toList != ([] : List UInt8)) a0_0 a0_1 a0_2 a0_3 a0_4)) = some true := by rw [if_pos rfl] at H; exact H
              clear H
              have H := H1
              clear H1
              by_cases c34 : (!(t395 == a0_0) || (!(t396 == a0_1) || (!(t397 == a0_2) || (!(t398 == a0_3) || (!(t399 == a0_4)))))) = true
              · rw [if_pos c34] at H
                have c34b0 : (!(t395 == a0_0) || (!(t396 == a0_1) || (!(t397 == a0_2) || (!(t398 == a0_3) || (!(t399 == a0_4)))))) = true := c34
                clear c34
                (first | rw [c34b0] | (simp only [i64_w, i32_w]; rw [c34b0]) | skip)
                have H' := Aside0.mk H
                clear H
                have hnb35 := NB402_390.out
                have hnc35 := NB390_402.out
                have hcz36_0 : w30.cell? ⟨gb402, 0, none⟩ = some (.int .i64 0) := (blk_cell BK402.out 0).trans rfl
                have hcz36_1 : w30.cell? ⟨gb402, 1, none⟩ = some (.int .i64 0) := (blk_cell BK402.out 1).trans rfl
                have hcz36_2 : w30.cell? ⟨gb402, 2, none⟩ = some (.int .i64 0) := (blk_cell BK402.out 2).trans rfl
                have hcz36_3 : w30.cell? ⟨gb402, 3, none⟩ = some (.int .i64 0) := (blk_cell BK402.out 3).trans rfl
                have hcz36_4 : w30.cell? ⟨gb402, 4, none⟩ = some (.int .i64 0) := (blk_cell BK402.out 4).trans rfl
                have hfz36_0 := blk_frozen BK402.out 0
                have hfz36_1 := blk_frozen BK402.out 1
                have hfz36_2 := blk_frozen BK402.out 2
                have hfz36_3 := blk_frozen BK402.out 3
                have hfz36_4 := blk_frozen BK402.out 4
                have hcz37_0 : w30.cell? ⟨gb390, 0, none⟩ = some (.int .i64 a0_0) := (blk_cell BK390.out 0).trans rfl
                have hcz37_1 : w30.cell? ⟨gb390, 1, none⟩ = some (.int .i64 a0_1) := (blk_cell BK390.out 1).trans rfl
                have hcz37_2 : w30.cell? ⟨gb390, 2, none⟩ = some (.int .i64 a0_2) := (blk_cell BK390.out 2).trans rfl
                have hcz37_3 : w30.cell? ⟨gb390, 3, none⟩ = some (.int .i64 a0_3) := (blk_cell BK390.out 3).trans rfl
                have hcz37_4 : w30.cell? ⟨gb390, 4, none⟩ = some (.int .i64 a0_4) := (blk_cell BK390.out 4).trans rfl
                have hfz37_0 := blk_frozen BK390.out 0
                have hfz37_1 := blk_frozen BK390.out 1
                have hfz37_2 := blk_frozen BK390.out 2
                have hfz37_3 := blk_frozen BK390.out 3
                have hfz37_4 := blk_frozen BK390.out 4
                go_wp2
                go_meet
                case rel => exact ⟨_, (true), (by first | rfl | (simp; done) | (simp [*]; done) | (refine congrArg _ ?_; rw [Bool.eq_iff_iff]; simp; done)), H', ⟨by have := HJ4.out; first | omega | exact Nat.le_refl _⟩, ⟨by (with_reducible repeat (first | refine blk_drewN ?_ _ | refine blk_drew ?_ | refine blk_alloc ?_ _)); refine blk_far ?_ NB390_402.out _; (with_reducible repeat (first | refine blk_drewN ?_ _ | refine blk_drew ?_ | refine blk_alloc ?_ _)); refine blk_far ?_ NB390_402.out _; (with_reducible repeat (first | refine blk_drewN ?_ _ | refine blk_drew ?_ | refine blk_alloc ?_ _)); refine blk_far ?_ NB390_402.out _; (with_reducible repeat (first | refine blk_drewN ?_ _ | refine blk_drew ?_ | refine blk_alloc ?_ _)); refine blk_far ?_ NB390_402.out _; (with_reducible repeat (first | refine blk_drewN ?_ _ | refine blk_drew ?_ | refine blk_alloc ?_ _)); refine blk_far ?_ NB390_402.out _; (with_reducible repeat (first | refine blk_drewN ?_ _ | refine blk_drew ?_ | refine blk_alloc ?_ _)); exact BK390.out⟩, ⟨by (with_reducible repeat (first | refine blk_drewN ?_ _ | refine blk_drew ?_ | refine blk_alloc ?_ _)); refine blk_put (cs := #[.int .i64 t395, .int .i64 t396, .int .i64 t397, .int .i64 t398, .int .i64 0]) ?_ 4 _ rfl; (with_reducible repeat (first | refine blk_drewN ?_ _ | refine blk_drew ?_ | refine blk_alloc ?_ _)); refine blk_put (cs := #[.int .i64 t395, .int .i64 t396, .int .i64 t397, .int .i64 0, .int .i64 0]) ?_ 3 _ rfl; (with_reducible repeat (first | refine blk_drewN ?_ _ | refine blk_drew ?_ | refine blk_alloc ?_ _)); refine blk_put (cs := #[.int .i64 t395, .int .i64 t396, .int .i64 0, .int .i64 0, .int .i64 0]) ?_ 2 _ rfl; (with_reducible repeat (first | refine blk_drewN ?_ _ | refine blk_drew ?_ | refine blk_alloc ?_ _)); refine blk_put (cs := #[.int .i64 t395, .int .i64 0, .int .i64 0, .int .i64 0, .int .i64 0]) ?_ 1 _ rfl; (with_reducible repeat (first | refine blk_drewN ?_ _ | refine blk_drew ?_ | refine blk_alloc ?_ _)); refine blk_put (cs := #[.int .i64 0, .int .i64 0, .int .i64 0, .int .i64 0, .int .i64 0]) ?_ 0 _ rfl; (with_reducible repeat (first | refine blk_drewN ?_ _ | refine blk_drew ?_ | refine blk_alloc ?_ _)); exact BK402.out⟩, ⟨by repeat (first | (with_reducible first | exact HB.out | apply below_alloc | apply pw_below_drewN | apply below_drew1 | refine below_set ?_ GE390.out | refine below_set ?_ GE402.out) | exact HB.out)⟩⟩
              · rw [if_neg c34] at H
                have c34b0 : (!(t395 == a0_0) || (!(t396 == a0_1) || (!(t397 == a0_2) || (!(t398 == a0_3) || (!(t399 == a0_4)))))) = false := by simpa using c34
                clear c34
                (first | rw [c34b0] | (simp only [i64_w, i32_w]; rw [c34b0]) | skip)
                have H' := Aside0.mk H
                clear H
                have hnb38 := NB402_390.out
                have hnc38 := NB390_402.out
                have hcz39_0 : w30.cell? ⟨gb402, 0, none⟩ = some (.int .i64 0) := (blk_cell BK402.out 0).trans rfl
                have hcz39_1 : w30.cell? ⟨gb402, 1, none⟩ = some (.int .i64 0) := (blk_cell BK402.out 1).trans rfl
                have hcz39_2 : w30.cell? ⟨gb402, 2, none⟩ = some (.int .i64 0) := (blk_cell BK402.out 2).trans rfl
                have hcz39_3 : w30.cell? ⟨gb402, 3, none⟩ = some (.int .i64 0) := (blk_cell BK402.out 3).trans rfl
                have hcz39_4 : w30.cell? ⟨gb402, 4, none⟩ = some (.int .i64 0) := (blk_cell BK402.out 4).trans rfl
                have hfz39_0 := blk_frozen BK402.out 0
                have hfz39_1 := blk_frozen BK402.out 1
                have hfz39_2 := blk_frozen BK402.out 2
                have hfz39_3 := blk_frozen BK402.out 3
                have hfz39_4 := blk_frozen BK402.out 4
                have hcz40_0 : w30.cell? ⟨gb390, 0, none⟩ = some (.int .i64 a0_0) := (blk_cell BK390.out 0).trans rfl
                have hcz40_1 : w30.cell? ⟨gb390, 1, none⟩ = some (.int .i64 a0_1) := (blk_cell BK390.out 1).trans rfl
                have hcz40_2 : w30.cell? ⟨gb390, 2, none⟩ = some (.int .i64 a0_2) := (blk_cell BK390.out 2).trans rfl
                have hcz40_3 : w30.cell? ⟨gb390, 3, none⟩ = some (.int .i64 a0_3) := (blk_cell BK390.out 3).trans rfl
                have hcz40_4 : w30.cell? ⟨gb390, 4, none⟩ = some (.int .i64 a0_4) := (blk_cell BK390.out 4).trans rfl
                have hfz40_0 := blk_frozen BK390.out 0
                have hfz40_1 := blk_frozen BK390.out 1
                have hfz40_2 := blk_frozen BK390.out 2
                have hfz40_3 := blk_frozen BK390.out 3
                have hfz40_4 := blk_frozen BK390.out 4
                go_wp2
                go_meet
                case rel => exact ⟨_, ((t400.toList != ([] : List UInt8))), (by first | rfl | (simp; done) | (simp [*]; done) | (refine congrArg _ ?_; rw [Bool.eq_iff_iff]; simp; done)), H', ⟨by have := HJ4.out; first | omega | exact Nat.le_refl _⟩, ⟨by (with_reducible repeat (first | refine blk_drewN ?_ _ | refine blk_drew ?_ | refine blk_alloc ?_ _)); refine blk_far ?_ NB390_402.out _; (with_reducible repeat (first | refine blk_drewN ?_ _ | refine blk_drew ?_ | refine blk_alloc ?_ _)); refine blk_far ?_ NB390_402.out _; (with_reducible repeat (first | refine blk_drewN ?_ _ | refine blk_drew ?_ | refine blk_alloc ?_ _)); refine blk_far ?_ NB390_402.out _; (with_reducible repeat (first | refine blk_drewN ?_ _ | refine blk_drew ?_ | refine blk_alloc ?_ _)); refine blk_far ?_ NB390_402.out _; (with_reducible repeat (first | refine blk_drewN ?_ _ | refine blk_drew ?_ | refine blk_alloc ?_ _)); refine blk_far ?_ NB390_402.out _; (with_reducible repeat (first | refine blk_drewN ?_ _ | refine blk_drew ?_ | refine blk_alloc ?_ _)); exact BK390.out⟩, ⟨by (with_reducible repeat (first | refine blk_drewN ?_ _ | refine blk_drew ?_ | refine blk_alloc ?_ _)); refine blk_put (cs := #[.int .i64 t395, .int .i64 t396, .int .i64 t397, .int .i64 t398, .int .i64 0]) ?_ 4 _ rfl; (with_reducible repeat (first | refine blk_drewN ?_ _ | refine blk_drew ?_ | refine blk_alloc ?_ _)); refine blk_put (cs := #[.int .i64 t395, .int .i64 t396, .int .i64 t397, .int .i64 0, .int .i64 0]) ?_ 3 _ rfl; (with_reducible repeat (first | refine blk_drewN ?_ _ | refine blk_drew ?_ | refine blk_alloc ?_ _)); refine blk_put (cs := #[.int .i64 t395, .int .i64 t396, .int .i64 0, .int .i64 0, .int .i64 0]) ?_ 2 _ rfl; (with_reducible repeat (first | refine blk_drewN ?_ _ | refine blk_drew ?_ | refine blk_alloc ?_ _)); refine blk_put (cs := #[.int .i64 t395, .int .i64 0, .int .i64 0, .int .i64 0, .int .i64 0]) ?_ 1 _ rfl; (with_reducible repeat (first | refine blk_drewN ?_ _ | refine blk_drew ?_ | refine blk_alloc ?_ _)); refine blk_put (cs := #[.int .i64 0, .int .i64 0, .int .i64 0, .int .i64 0, .int .i64 0]) ?_ 0 _ rfl; (with_reducible repeat (first | refine blk_drewN ?_ _ | refine blk_drew ?_ | refine blk_alloc ?_ _)); exact BK402.out⟩, ⟨by repeat (first | (with_reducible first | exact HB.out | apply below_alloc | apply pw_below_drewN | apply below_drew1 | refine below_set ?_ GE390.out | refine below_set ?_ GE402.out) | exact HB.out)⟩⟩
            · replace c33 := Bool.eq_false_iff.mpr c33
              subst c33
              have H1 : (epactlaw17_RuleBack.j1 kj4 a1 t391 t392 true a0_0 a0_1 a0_2 a0_3 a0_4) = some true := by rw [if_neg (show ¬ (false = true) by decide)] at H; exact H
              clear H
              have H := H1
              clear H1
              have H' := Aside0.mk H
              clear H
              go_wp2
              go_meet
              case rel => exact ⟨_, (true), (by first | rfl | (simp; done) | (simp [*]; done) | (refine congrArg _ ?_; rw [Bool.eq_iff_iff]; simp; done)), H', ⟨by have := HJ4.out; first | omega | exact Nat.le_refl _⟩, ⟨by (with_reducible repeat (first | refine blk_drewN ?_ _ | refine blk_drew ?_ | refine blk_alloc ?_ _)); refine blk_far ?_ NB390_402.out _; (with_reducible repeat (first | refine blk_drewN ?_ _ | refine blk_drew ?_ | refine blk_alloc ?_ _)); refine blk_far ?_ NB390_402.out _; (with_reducible repeat (first | refine blk_drewN ?_ _ | refine blk_drew ?_ | refine blk_alloc ?_ _)); refine blk_far ?_ NB390_402.out _; (with_reducible repeat (first | refine blk_drewN ?_ _ | refine blk_drew ?_ | refine blk_alloc ?_ _)); refine blk_far ?_ NB390_402.out _; (with_reducible repeat (first | refine blk_drewN ?_ _ | refine blk_drew ?_ | refine blk_alloc ?_ _)); refine blk_far ?_ NB390_402.out _; (with_reducible repeat (first | refine blk_drewN ?_ _ | refine blk_drew ?_ | refine blk_alloc ?_ _)); exact BK390.out⟩, ⟨by (with_reducible repeat (first | refine blk_drewN ?_ _ | refine blk_drew ?_ | refine blk_alloc ?_ _)); refine blk_put (cs := #[.int .i64 t395, .int .i64 t396, .int .i64 t397, .int .i64 t398, .int .i64 0]) ?_ 4 _ rfl; (with_reducible repeat (first | refine blk_drewN ?_ _ | refine blk_drew ?_ | refine blk_alloc ?_ _)); refine blk_put (cs := #[.int .i64 t395, .int .i64 t396, .int .i64 t397, .int .i64 0, .int .i64 0]) ?_ 3 _ rfl; (with_reducible repeat (first | refine blk_drewN ?_ _ | refine blk_drew ?_ | refine blk_alloc ?_ _)); refine blk_put (cs := #[.int .i64 t395, .int .i64 t396, .int .i64 0, .int .i64 0, .int .i64 0]) ?_ 2 _ rfl; (with_reducible repeat (first | refine blk_drewN ?_ _ | refine blk_drew ?_ | refine blk_alloc ?_ _)); refine blk_put (cs := #[.int .i64 t395, .int .i64 0, .int .i64 0, .int .i64 0, .int .i64 0]) ?_ 1 _ rfl; (with_reducible repeat (first | refine blk_drewN ?_ _ | refine blk_drew ?_ | refine blk_alloc ?_ _)); refine blk_put (cs := #[.int .i64 0, .int .i64 0, .int .i64 0, .int .i64 0, .int .i64 0]) ?_ 0 _ rfl; (with_reducible repeat (first | refine blk_drewN ?_ _ | refine blk_drew ?_ | refine blk_alloc ?_ _)); exact BK402.out⟩, ⟨by repeat (first | (with_reducible first | exact HB.out | apply below_alloc | apply pw_below_drewN | apply below_drew1 | refine below_set ?_ GE390.out | refine below_set ?_ GE402.out) | exact HB.out)⟩⟩
          case rest =>
            clear HC27
            try clear c1
            try clear c2
            try clear p2
            try clear c3
            try clear c8
            try clear c13
            try clear c13b0
            try clear c13b1
            try clear c13b2
            try clear c17
            try clear c21
            try clear c24
            try clear c25
            try clear c26
            try clear c28
            try clear c31
            try clear c33
            try clear c34
            try clear c34b0
            try clear c35
            try clear c38
            try clear hcz14_0
            try clear hcz14_1
            try clear hcz14_2
            try clear hcz14_3
            try clear hcz14_4
            try clear hcz18_0
            try clear hcz18_1
            try clear hcz18_2
            try clear hcz18_3
            try clear hcz18_4
            try clear hcz21_0
            try clear hcz21_1
            try clear hcz21_2
            try clear hcz21_3
            try clear hcz21_4
            try clear hcz32_0
            try clear hcz32_1
            try clear hcz32_2
            try clear hcz32_3
            try clear hcz32_4
            try clear hcz36_0
            try clear hcz36_1
            try clear hcz36_2
            try clear hcz36_3
            try clear hcz36_4
            try clear hcz37_0
            try clear hcz37_1
            try clear hcz37_2
            try clear hcz37_3
            try clear hcz37_4
            try clear hcz39_0
            try clear hcz39_1
            try clear hcz39_2
            try clear hcz39_3
            try clear hcz39_4
            try clear hcz40_0
            try clear hcz40_1
            try clear hcz40_2
            try clear hcz40_3
            try clear hcz40_4
            try clear hcz9_0
            try clear hcz9_1
            try clear hcz9_2
            try clear hcz9_3
            try clear hcz9_4
            try clear hfz14_0
            try clear hfz14_1
            try clear hfz14_2
            try clear hfz14_3
            try clear hfz14_4
            try clear hfz18_0
            try clear hfz18_1
            try clear hfz18_2
            try clear hfz18_3
            try clear hfz18_4
            try clear hfz21_0
            try clear hfz21_1
            try clear hfz21_2
            try clear hfz21_3
            try clear hfz21_4
            try clear hfz32_0
            try clear hfz32_1
            try clear hfz32_2
            try clear hfz32_3
            try clear hfz32_4
            try clear hfz36_0
            try clear hfz36_1
            try clear hfz36_2
            try clear hfz36_3
            try clear hfz36_4
            try clear hfz37_0
            try clear hfz37_1
            try clear hfz37_2
            try clear hfz37_3
            try clear hfz37_4
            try clear hfz39_0
            try clear hfz39_1
            try clear hfz39_2
            try clear hfz39_3
            try clear hfz39_4
            try clear hfz40_0
            try clear hfz40_1
            try clear hfz40_2
            try clear hfz40_3
            try clear hfz40_4
            try clear hfz9_0
            try clear hfz9_1
            try clear hfz9_2
            try clear hfz9_3
            try clear hfz9_4
            try clear p2
            obtain ⟨kq, x52_26, rfl, HA, HJ26, BK390, BK402, HB⟩ := hcut
            cases kq with
            | zero => exact absurd HA.out (by simp [epactlaw17_RuleBack.j1])
            | succ kj26 =>
              have H := HA.out
              clear HA
              simp only [epactlaw17_RuleBack.j1] at H
              by_cases c41 : x52_26 = true
              · subst c41
                have H1 : (some false) = some true := by rw [if_pos rfl] at H; exact H
                clear H
                have H := H1
                clear H1
                exact absurd H (by simp)
              · replace c41 := Bool.eq_false_iff.mpr c41
                subst c41
                have H1 : (if a1 ≥ 46 then (if a1 ≤ 58 then (some t391) else ((some (([a1] : List Int) : List Int)).bind fun y403 => (if t392.size + (strOfNums y403).size ≤ 9223372036854775807 then ((rule_Parse.f kj26 (t392 ++ (strOfNums y403))).bind fun bt406 => (if t391 = true then (if bt406.2.2.2.2.2.2 = true then (if (bt406.1 == a0_0 && (bt406.2.1 == a0_1 && (bt406.2.2.1 == a0_2 && (bt406.2.2.2.1 == a0_3 && (bt406.2.2.2.2.1 == a0_4))))) = true then (some (bt406.2.2.2.2.2.1.toList == (strOfNums y403).toList)) else (some false)) else (some false)) else (some false))) else (none)))) else ((some (([a1] : List Int) : List Int)).bind fun y414 => (if t392.size + (strOfNums y414).size ≤ 9223372036854775807 then ((rule_Parse.f kj26 (t392 ++ (strOfNums y414))).bind fun bt417 => (if t391 = true then (if bt417.2.2.2.2.2.2 = true then (if (bt417.1 == a0_0 && (bt417.2.1 == a0_1 && (bt417.2.2.1 == a0_2 && (bt417.2.2.2.1 == a0_3 && (bt417.2.2.2.2.1 == a0_4))))) = true then (some (bt417.2.2.2.2.2.1.toList == (strOfNums y414).toList)) else (some false)) else (some false)) else (some false))) else (none)))) = some true := by rw [if_neg (show ¬ (false = true) by decide)] at H; exact H
                clear H
                have H := H1
                clear H1
                by_cases c42 : a1 ≥ 46
                · rw [if_pos c42] at H
                  have c42b0 : decide (46 ≤ a1) = true := decide_eq_true c42
                  clear c42
                  by_cases c43 : a1 ≤ 58
                  · rw [if_pos c43] at H
                    have c43b0 : decide (a1 ≤ 58) = true := decide_eq_true c43
                    clear c43
                    have hT := Option.some.inj H
                    clear H
                    try have hT2 : (t391) = true := by simpa using hT
                    go_wp2
                    go_ret
                    exact ⟨by first | rfl | (simp [errW_none, errW_some] <;> rfl) | (simp [*, errW_none, errW_some] <;> rfl), by repeat (first | (with_reducible first | exact HB.out | apply below_alloc | apply pw_below_drewN | apply below_drew1 | refine below_set ?_ GE390.out | refine below_set ?_ GE402.out) | exact HB.out)⟩
                  · rw [if_neg c43] at H
                    have c43b0 : decide (a1 ≤ 58) = false := decide_eq_false c43
                    clear c43
                    obtain ⟨y403, hy403⟩ : ∃ y_ : List Int, y_ = (([a1] : List Int)) := ⟨_, rfl⟩
                    replace H : (if t392.size + (strOfNums y403).size ≤ 9223372036854775807 then ((rule_Parse.f kj26 (t392 ++ (strOfNums y403))).bind fun bt406 => (if t391 = true then (if bt406.2.2.2.2.2.2 = true then (if (bt406.1 == a0_0 && (bt406.2.1 == a0_1 && (bt406.2.2.1 == a0_2 && (bt406.2.2.2.1 == a0_3 && (bt406.2.2.2.2.1 == a0_4))))) = true then (some (bt406.2.2.2.2.2.1.toList == (strOfNums y403).toList)) else (some false)) else (some false)) else (some false))) else (none)) = some true := by first | (rw [hy403]; with_reducible exact H) | (have H2_ := (Option.bind_some _ _).symm.trans H; rw [hy403]; with_reducible exact H2_) | (have H2_ := (Option.bind_some _ _).symm.trans H; with_reducible exact H2_) | with_reducible exact H | (rw [hy403]; exact H) | exact H
                    have Ny403 := Aside0.mk hy403
                    clear hy403
                    by_cases c44 : t392.size + (strOfNums y403).size ≤ 9223372036854775807
                    · rw [if_pos c44] at H
                      have c44b0 := eq_true c44
                      have c44b1 : decide (t392.size + (strOfNums y403).size ≤ 9223372036854775807) = true := decide_eq_true c44
                      try have c44b2 : (9223372036854775807 < t392.size + (strOfNums y403).size) = False := eq_false (Nat.not_lt.2 c44)
                      replace H := Option.bind_eq_some_iff.mp H
                      obtain ⟨⟨t406, t407, t408, t409, t410, t411, t412⟩, A450, H⟩ := H
                      replace H : (if t391 = true then (if t412 = true then (if (t406 == a0_0 && (t407 == a0_1 && (t408 == a0_2 && (t409 == a0_3 && (t410 == a0_4))))) = true then (some (t411.toList == (strOfNums y403).toList)) else (some false)) else (some false)) else (some false)) = some true := H
                      have A45 := Aside0.mk A450
                      clear A450
                      by_cases c46 : t391 = true
                      · subst c46
                        have H1 : (if t412 = true then (if (t406 == a0_0 && (t407 == a0_1 && (t408 == a0_2 && (t409 == a0_3 && (t410 == a0_4))))) = true then (some (t411.toList == (strOfNums y403).toList)) else (some false)) else (some false)) = some true := by rw [if_pos rfl] at H; exact H
                        clear H
                        have H := H1
                        clear H1
                        by_cases c47 : t412 = true
                        · subst c47
                          have H1 : (if (t406 == a0_0 && (t407 == a0_1 && (t408 == a0_2 && (t409 == a0_3 && (t410 == a0_4))))) = true then (some (t411.toList == (strOfNums y403).toList)) else (some false)) = some true := by rw [if_pos rfl] at H; exact H
                          clear H
                          have H := H1
                          clear H1
                          by_cases c48 : (t406 == a0_0 && (t407 == a0_1 && (t408 == a0_2 && (t409 == a0_3 && (t410 == a0_4))))) = true
                          · rw [if_pos c48] at H
                            have c48b0 : (t406 == a0_0 && (t407 == a0_1 && (t408 == a0_2 && (t409 == a0_3 && (t410 == a0_4))))) = true := c48
                            (try (have c48b1 : decide (t406 = a0_0 && (t407 == a0_1 && (t408 == a0_2 && (t409 == a0_3 && (t410 == a0_4))))) = true := by simpa using c48))
                            (try (have c48b2 : (t406 == a0_0 && (t407 == a0_1 && (t408 == a0_2 && (t409 == a0_3 && (t410 == a0_4))))) = true := by simpa using c48))
                            clear c48
                            have hT := Option.some.inj H
                            clear H
                            try have hT2 : ((t411.toList == (strOfNums y403).toList)) = true := by simpa using hT
                            go_wp2_with (first | ((with_reducible refine gate_dst (N := 61) rfl ?_); refine Kd.R_lit (Kd.int .u8) _ 5 ?hg (N := 61) ?hd (xs := ([a1] : List Int)) (inner := [.int .u8 a1]) (ok := fun _ => True) (okp := fun _ => True) ?hr ?hp (fun _ hk => hk) trivial (Below.refl _ _) (Nat.le_refl _) (by simp) ?_; (case hd => rfl); (case hg => rfl); (case hr => first | (go_simp; done) | (go_simp; rfl)); (case hp => exact (Reps.one (show Kd.M (Kd.int .u8) _ _ _ a1 [.int .u8 a1] from rfl) (Reps.none _ _))); intro v404 w49 ho50 hb hg_ hnew_; clear hg_ hnew_; (first | rw [← Ny403.out] at ho50 | (simp only [Int.reduceToNat] at ho50; rw [← Ny403.out] at ho50)); have n0_ := Aside0.mk (Kd.R_lower ho50 (below_size (by repeat (first | (with_reducible first | exact HB.out | apply below_alloc | apply pw_below_drewN | apply below_drew1 | refine below_set ?_ GE390.out | refine below_set ?_ GE402.out) | exact HB.out)))); have n1_ := Aside0.mk (blk_below (g := gb390) (o := .cells #[.int .i64 a0_0, .int .i64 a0_1, .int .i64 a0_2, .int .i64 a0_3, .int .i64 a0_4] 42 (0, 0)) (by (with_reducible repeat (first | refine blk_drewN ?_ _ | refine blk_drew ?_ | refine blk_alloc ?_ _)); exact BK390.out) hb); have n2_ := Aside0.mk (blk_below (g := gb402) (o := .cells #[.int .i64 t395, .int .i64 t396, .int .i64 t397, .int .i64 t398, .int .i64 t399] 42 (0, 0)) (by (with_reducible repeat (first | refine blk_drewN ?_ _ | refine blk_drew ?_ | refine blk_alloc ?_ _)); exact BK402.out) hb); have n3_ := Aside0.mk (below_step (by repeat (first | (with_reducible first | exact HB.out | apply below_alloc | apply pw_below_drewN | apply below_drew1 | refine below_set ?_ GE390.out | refine below_set ?_ GE402.out) | exact HB.out)) hb); clear BK390; clear BK402; clear HB; have HO405 := n0_; have BK390 := n1_; have BK402 := n2_; have HB := n3_; clear n0_ n1_ n2_ n3_; clear hb ho50; have hcv51 := own_string (P := Tryd.prog) Tryd.underlying54 Tryd.underlying5 Tryd.underlying9 (Kd.own_of_R HO405.out)) | ((with_reducible refine gate_callee (f := 28) rfl ?_); refine goesL_ (some 67) rfl rfl Tryd.func28 (by kernel_rfl) rfl #[.string (t392 ++ (strOfNums y403))] rfl (by (try simp only [List.map_toArray, List.map_cons, List.map_nil]); first | done | rfl | (simp only [List.length_drop, List.length_take]; rfl)) ?_; (with_reducible refine (rule_Parse.calls kj26 (t392 ++ (strOfNums y403)) t406 t407 t408 t409 t410 t411 true _ ?side752 A45.out).mono ?_); (case side752 => first | exact hG | exact hG.at1 HB | exact hG.drewN _ | (refine hG.below ?_; repeat (first | (with_reducible first | exact HB.out | apply below_alloc | apply pw_below_drewN | apply below_drew1 | refine below_set ?_ GE390.out | refine below_set ?_ GE402.out) | exact HB.out))); rintro e w53 ⟨rfl, hb⟩; refine ⟨_, rfl, ?_⟩; have n0_ := Aside0.mk (Kd.R_below (by (with_reducible repeat (first | apply Kd.R_alloc | apply Kd.R_drewN | apply Kd.R_drew)); exact HO405.out) hb); have n1_ := Aside0.mk (blk_below (g := gb390) (o := .cells #[.int .i64 a0_0, .int .i64 a0_1, .int .i64 a0_2, .int .i64 a0_3, .int .i64 a0_4] 42 (0, 0)) (by (with_reducible repeat (first | refine blk_drewN ?_ _ | refine blk_drew ?_ | refine blk_alloc ?_ _)); exact BK390.out) hb); have n2_ := Aside0.mk (blk_below (g := gb402) (o := .cells #[.int .i64 t395, .int .i64 t396, .int .i64 t397, .int .i64 t398, .int .i64 t399] 42 (0, 0)) (by (with_reducible repeat (first | refine blk_drewN ?_ _ | refine blk_drew ?_ | refine blk_alloc ?_ _)); exact BK402.out) hb); have n3_ := Aside0.mk (below_step (by repeat (first | (with_reducible first | exact HB.out | apply below_alloc | apply pw_below_drewN | apply below_drew1 | refine below_set ?_ GE390.out | refine below_set ?_ GE402.out) | exact HB.out)) hb); clear HO405; clear BK390; clear BK402; clear HB; have HO405 := n0_; have BK390 := n1_; have BK402 := n2_; have HB := n3_; clear n0_ n1_ n2_ n3_; (try clear hb); (try clear hb2); (try clear hk); (try clear hi)) | ((with_reducible refine gate_dst (N := 12) rfl ?_); refine box_event ?hg (N := 12) ?hd (cs := #[.int .i64 0, .int .i64 0, .int .i64 0, .int .i64 0, .int .i64 0]) (t := 42) ?hr ?_; (case hd => rfl); (case hg => rfl); (case hr => first | (go_simp; done) | (go_simp; rfl)); intro gb413 hg w54 hbox hb; have n0_ := Aside0.mk (Kd.R_below (by (with_reducible repeat (first | apply Kd.R_alloc | apply Kd.R_drewN | apply Kd.R_drew)); exact HO405.out) hb); have n1_ := Aside0.mk (blk_below (g := gb390) (o := .cells #[.int .i64 a0_0, .int .i64 a0_1, .int .i64 a0_2, .int .i64 a0_3, .int .i64 a0_4] 42 (0, 0)) (by (with_reducible repeat (first | refine blk_drewN ?_ _ | refine blk_drew ?_ | refine blk_alloc ?_ _)); exact BK390.out) hb); have n2_ := Aside0.mk (blk_below (g := gb402) (o := .cells #[.int .i64 t395, .int .i64 t396, .int .i64 t397, .int .i64 t398, .int .i64 t399] 42 (0, 0)) (by (with_reducible repeat (first | refine blk_drewN ?_ _ | refine blk_drew ?_ | refine blk_alloc ?_ _)); exact BK402.out) hb); have n3_ := Aside0.mk (below_step (by repeat (first | (with_reducible first | exact HB.out | apply below_alloc | apply pw_below_drewN | apply below_drew1 | refine below_set ?_ GE390.out | refine below_set ?_ GE402.out) | exact HB.out)) hb); have n4_ := Aside0.mk (hbox); have n5_ := Aside0.mk ((by rw [hg]; exact (below_size (by repeat (first | (with_reducible first | exact HB.out | apply below_alloc | apply pw_below_drewN | apply below_drew1 | refine below_set ?_ GE390.out | refine below_set ?_ GE402.out) | exact HB.out))) : w.heap.size ≤ gb413)); have n6_ := Aside0.mk ((by rw [hg]; exact (below_size (by repeat (first | (with_reducible first | exact HB.out | apply below_alloc | apply pw_below_drewN | apply below_drew1 | refine below_set ?_ GE390.out | refine below_set ?_ GE402.out) | exact HB.out))) : w.heap.size ≤ gb413)); have n7_ := Aside0.mk ((by rw [hg]; exact Nat.ne_of_lt (blk_lt (g := gb390) (o := .cells #[.int .i64 a0_0, .int .i64 a0_1, .int .i64 a0_2, .int .i64 a0_3, .int .i64 a0_4] 42 (0, 0)) (by (with_reducible repeat (first | refine blk_drewN ?_ _ | refine blk_drew ?_ | refine blk_alloc ?_ _)); exact BK390.out)) : gb390 ≠ gb413)); have n8_ := Aside0.mk ((by rw [hg]; exact Nat.ne_of_gt (blk_lt (g := gb390) (o := .cells #[.int .i64 a0_0, .int .i64 a0_1, .int .i64 a0_2, .int .i64 a0_3, .int .i64 a0_4] 42 (0, 0)) (by (with_reducible repeat (first | refine blk_drewN ?_ _ | refine blk_drew ?_ | refine blk_alloc ?_ _)); exact BK390.out)) : gb413 ≠ gb390)); have n9_ := Aside0.mk ((by rw [hg]; exact Nat.ne_of_lt (blk_lt (g := gb402) (o := .cells #[.int .i64 t395, .int .i64 t396, .int .i64 t397, .int .i64 t398, .int .i64 t399] 42 (0, 0)) (by (with_reducible repeat (first | refine blk_drewN ?_ _ | refine blk_drew ?_ | refine blk_alloc ?_ _)); exact BK402.out)) : gb402 ≠ gb413)); have n10_ := Aside0.mk ((by rw [hg]; exact Nat.ne_of_gt (blk_lt (g := gb402) (o := .cells #[.int .i64 t395, .int .i64 t396, .int .i64 t397, .int .i64 t398, .int .i64 t399] 42 (0, 0)) (by (with_reducible repeat (first | refine blk_drewN ?_ _ | refine blk_drew ?_ | refine blk_alloc ?_ _)); exact BK402.out)) : gb413 ≠ gb402)); clear HO405; clear BK390; clear BK402; clear HB; have HO405 := n0_; have BK390 := n1_; have BK402 := n2_; have HB := n3_; have BK413 := n4_; have GW413 := n5_; have GE413 := n6_; have NB390_413 := n7_; have NB413_390 := n8_; have NB402_413 := n9_; have NB413_402 := n10_; clear n0_ n1_ n2_ n3_ n4_ n5_ n6_ n7_ n8_ n9_ n10_; clear hb hbox hg; have hnb55 := NB413_390.out; have hnc55 := NB390_413.out; have hnb56 := NB413_402.out; have hnc56 := NB402_413.out; have hcz57_0 : w54.cell? ⟨gb413, 0, none⟩ = some (.int .i64 0) := (blk_cell BK413.out 0).trans rfl; have hcz57_1 : w54.cell? ⟨gb413, 1, none⟩ = some (.int .i64 0) := (blk_cell BK413.out 1).trans rfl; have hcz57_2 : w54.cell? ⟨gb413, 2, none⟩ = some (.int .i64 0) := (blk_cell BK413.out 2).trans rfl; have hcz57_3 : w54.cell? ⟨gb413, 3, none⟩ = some (.int .i64 0) := (blk_cell BK413.out 3).trans rfl; have hcz57_4 : w54.cell? ⟨gb413, 4, none⟩ = some (.int .i64 0) := (blk_cell BK413.out 4).trans rfl; have hfz57_0 := blk_frozen BK413.out 0; have hfz57_1 := blk_frozen BK413.out 1; have hfz57_2 := blk_frozen BK413.out 2; have hfz57_3 := blk_frozen BK413.out 3; have hfz57_4 := blk_frozen BK413.out 4; have hnb58 := NB390_402.out; have hnc58 := NB402_390.out; have hcz59_0 : w54.cell? ⟨gb390, 0, none⟩ = some (.int .i64 a0_0) := (blk_cell BK390.out 0).trans rfl; have hcz59_1 : w54.cell? ⟨gb390, 1, none⟩ = some (.int .i64 a0_1) := (blk_cell BK390.out 1).trans rfl; have hcz59_2 : w54.cell? ⟨gb390, 2, none⟩ = some (.int .i64 a0_2) := (blk_cell BK390.out 2).trans rfl; have hcz59_3 : w54.cell? ⟨gb390, 3, none⟩ = some (.int .i64 a0_3) := (blk_cell BK390.out 3).trans rfl; have hcz59_4 : w54.cell? ⟨gb390, 4, none⟩ = some (.int .i64 a0_4) := (blk_cell BK390.out 4).trans rfl; have hfz59_0 := blk_frozen BK390.out 0; have hfz59_1 := blk_frozen BK390.out 1; have hfz59_2 := blk_frozen BK390.out 2; have hfz59_3 := blk_frozen BK390.out 3; have hfz59_4 := blk_frozen BK390.out 4))
                            go_ret
                            exact ⟨by first | rfl | (simp [errW_none, errW_some] <;> rfl) | (simp [*, errW_none, errW_some] <;> rfl), by repeat (first | (with_reducible first | exact HB.out | apply below_alloc | apply pw_below_drewN | apply below_drew1 | refine below_set ?_ GE390.out | refine below_set ?_ GE402.out | refine below_set ?_ GE413.out) | exact HB.out)⟩
                          · rw [if_neg c48] at H
                            have c48b0 : (t406 == a0_0 && (t407 == a0_1 && (t408 == a0_2 && (t409 == a0_3 && (t410 == a0_4))))) = false := by simpa using c48
                            (try (have c48b1 : decide (t406 = a0_0 && (t407 == a0_1 && (t408 == a0_2 && (t409 == a0_3 && (t410 == a0_4))))) = false := by simpa using c48))
                            (try (have c48b2 : (t406 == a0_0 && (t407 == a0_1 && (t408 == a0_2 && (t409 == a0_3 && (t410 == a0_4))))) = false := by simpa using c48))
                            (try (have c48b3 : ¬ (t406 = a0_0 && (t407 == a0_1 && (t408 == a0_2 && (t409 == a0_3 && (t410 == a0_4))))) := by simpa using c48))
                            clear c48
                            exact absurd H (by simp)
                        · replace c47 := Bool.eq_false_iff.mpr c47
                          subst c47
                          have H1 : (some false) = some true := by rw [if_neg (show ¬ (false = true) by decide)] at H; exact H
                          clear H
                          have H := H1
                          clear H1
                          exact absurd H (by simp)
                      · replace c46 := Bool.eq_false_iff.mpr c46
                        subst c46
                        have H1 : (some false) = some true := by rw [if_neg (show ¬ (false = true) by decide)] at H; exact H
                        clear H
                        have H := H1
                        clear H1
                        exact absurd H (by simp)
                    · rw [if_neg c44] at H
                      exact absurd H (by simp)
                · rw [if_neg c42] at H
                  have c42b0 : decide (46 ≤ a1) = false := decide_eq_false c42
                  clear c42
                  obtain ⟨y414, hy414⟩ : ∃ y_ : List Int, y_ = (([a1] : List Int)) := ⟨_, rfl⟩
                  replace H : (if t392.size + (strOfNums y414).size ≤ 9223372036854775807 then ((rule_Parse.f kj26 (t392 ++ (strOfNums y414))).bind fun bt417 => (if t391 = true then (if bt417.2.2.2.2.2.2 = true then (if (bt417.1 == a0_0 && (bt417.2.1 == a0_1 && (bt417.2.2.1 == a0_2 && (bt417.2.2.2.1 == a0_3 && (bt417.2.2.2.2.1 == a0_4))))) = true then (some (bt417.2.2.2.2.2.1.toList == (strOfNums y414).toList)) else (some false)) else (some false)) else (some false))) else (none)) = some true := by first | (rw [hy414]; with_reducible exact H) | (have H2_ := (Option.bind_some _ _).symm.trans H; rw [hy414]; with_reducible exact H2_) | (have H2_ := (Option.bind_some _ _).symm.trans H; with_reducible exact H2_) | with_reducible exact H | (rw [hy414]; exact H) | exact H
                  have Ny414 := Aside0.mk hy414
                  clear hy414
                  by_cases c60 : t392.size + (strOfNums y414).size ≤ 9223372036854775807
                  · rw [if_pos c60] at H
                    have c60b0 := eq_true c60
                    have c60b1 : decide (t392.size + (strOfNums y414).size ≤ 9223372036854775807) = true := decide_eq_true c60
                    try have c60b2 : (9223372036854775807 < t392.size + (strOfNums y414).size) = False := eq_false (Nat.not_lt.2 c60)
                    replace H := Option.bind_eq_some_iff.mp H
                    obtain ⟨⟨t417, t418, t419, t420, t421, t422, t423⟩, A610, H⟩ := H
                    replace H : (if t391 = true then (if t423 = true then (if (t417 == a0_0 && (t418 == a0_1 && (t419 == a0_2 && (t420 == a0_3 && (t421 == a0_4))))) = true then (some (t422.toList == (strOfNums y414).toList)) else (some false)) else (some false)) else (some false)) = some true := H
                    have A61 := Aside0.mk A610
                    clear A610
                    by_cases c62 : t391 = true
                    · subst c62
                      have H1 : (if t423 = true then (if (t417 == a0_0 && (t418 == a0_1 && (t419 == a0_2 && (t420 == a0_3 && (t421 == a0_4))))) = true then (some (t422.toList == (strOfNums y414).toList)) else (some false)) else (some false)) = some true := by rw [if_pos rfl] at H; exact H
                      clear H
                      have H := H1
                      clear H1
                      by_cases c63 : t423 = true
                      · subst c63
                        have H1 : (if (t417 == a0_0 && (t418 == a0_1 && (t419 == a0_2 && (t420 == a0_3 && (t421 == a0_4))))) = true then (some (t422.toList == (strOfNums y414).toList)) else (some false)) = some true := by rw [if_pos rfl] at H; exact H
                        clear H
                        have H := H1
                        clear H1
                        by_cases c64 : (t417 == a0_0 && (t418 == a0_1 && (t419 == a0_2 && (t420 == a0_3 && (t421 == a0_4))))) = true
                        · rw [if_pos c64] at H
                          have c64b0 : (t417 == a0_0 && (t418 == a0_1 && (t419 == a0_2 && (t420 == a0_3 && (t421 == a0_4))))) = true := c64
                          (try (have c64b1 : decide (t417 = a0_0 && (t418 == a0_1 && (t419 == a0_2 && (t420 == a0_3 && (t421 == a0_4))))) = true := by simpa using c64))
                          (try (have c64b2 : (t417 == a0_0 && (t418 == a0_1 && (t419 == a0_2 && (t420 == a0_3 && (t421 == a0_4))))) = true := by simpa using c64))
                          clear c64
                          have hT := Option.some.inj H
                          clear H
                          try have hT2 : ((t422.toList == (strOfNums y414).toList)) = true := by simpa using hT
                          go_wp2_with (first | ((with_reducible refine gate_dst (N := 61) rfl ?_); refine Kd.R_lit (Kd.int .u8) _ 5 ?hg (N := 61) ?hd (xs := ([a1] : List Int)) (inner := [.int .u8 a1]) (ok := fun _ => True) (okp := fun _ => True) ?hr ?hp (fun _ hk => hk) trivial (Below.refl _ _) (Nat.le_refl _) (by simp) ?_; (case hd => rfl); (case hg => rfl); (case hr => first | (go_simp; done) | (go_simp; rfl)); (case hp => exact (Reps.one (show Kd.M (Kd.int .u8) _ _ _ a1 [.int .u8 a1] from rfl) (Reps.none _ _))); intro v415 w65 ho66 hb hg_ hnew_; clear hg_ hnew_; (first | rw [← Ny414.out] at ho66 | (simp only [Int.reduceToNat] at ho66; rw [← Ny414.out] at ho66)); have n0_ := Aside0.mk (Kd.R_lower ho66 (below_size (by repeat (first | (with_reducible first | exact HB.out | apply below_alloc | apply pw_below_drewN | apply below_drew1 | refine below_set ?_ GE390.out | refine below_set ?_ GE402.out) | exact HB.out)))); have n1_ := Aside0.mk (blk_below (g := gb390) (o := .cells #[.int .i64 a0_0, .int .i64 a0_1, .int .i64 a0_2, .int .i64 a0_3, .int .i64 a0_4] 42 (0, 0)) (by (with_reducible repeat (first | refine blk_drewN ?_ _ | refine blk_drew ?_ | refine blk_alloc ?_ _)); exact BK390.out) hb); have n2_ := Aside0.mk (blk_below (g := gb402) (o := .cells #[.int .i64 t395, .int .i64 t396, .int .i64 t397, .int .i64 t398, .int .i64 t399] 42 (0, 0)) (by (with_reducible repeat (first | refine blk_drewN ?_ _ | refine blk_drew ?_ | refine blk_alloc ?_ _)); exact BK402.out) hb); have n3_ := Aside0.mk (below_step (by repeat (first | (with_reducible first | exact HB.out | apply below_alloc | apply pw_below_drewN | apply below_drew1 | refine below_set ?_ GE390.out | refine below_set ?_ GE402.out) | exact HB.out)) hb); clear BK390; clear BK402; clear HB; have HO416 := n0_; have BK390 := n1_; have BK402 := n2_; have HB := n3_; clear n0_ n1_ n2_ n3_; clear hb ho66; have hcv67 := own_string (P := Tryd.prog) Tryd.underlying54 Tryd.underlying5 Tryd.underlying9 (Kd.own_of_R HO416.out)) | ((with_reducible refine gate_callee (f := 28) rfl ?_); refine goesL_ (some 67) rfl rfl Tryd.func28 (by kernel_rfl) rfl #[.string (t392 ++ (strOfNums y414))] rfl (by (try simp only [List.map_toArray, List.map_cons, List.map_nil]); first | done | rfl | (simp only [List.length_drop, List.length_take]; rfl)) ?_; (with_reducible refine (rule_Parse.calls kj26 (t392 ++ (strOfNums y414)) t417 t418 t419 t420 t421 t422 true _ ?side768 A61.out).mono ?_); (case side768 => first | exact hG | exact hG.at1 HB | exact hG.drewN _ | (refine hG.below ?_; repeat (first | (with_reducible first | exact HB.out | apply below_alloc | apply pw_below_drewN | apply below_drew1 | refine below_set ?_ GE390.out | refine below_set ?_ GE402.out) | exact HB.out))); rintro e w69 ⟨rfl, hb⟩; refine ⟨_, rfl, ?_⟩; have n0_ := Aside0.mk (Kd.R_below (by (with_reducible repeat (first | apply Kd.R_alloc | apply Kd.R_drewN | apply Kd.R_drew)); exact HO416.out) hb); have n1_ := Aside0.mk (blk_below (g := gb390) (o := .cells #[.int .i64 a0_0, .int .i64 a0_1, .int .i64 a0_2, .int .i64 a0_3, .int .i64 a0_4] 42 (0, 0)) (by (with_reducible repeat (first | refine blk_drewN ?_ _ | refine blk_drew ?_ | refine blk_alloc ?_ _)); exact BK390.out) hb); have n2_ := Aside0.mk (blk_below (g := gb402) (o := .cells #[.int .i64 t395, .int .i64 t396, .int .i64 t397, .int .i64 t398, .int .i64 t399] 42 (0, 0)) (by (with_reducible repeat (first | refine blk_drewN ?_ _ | refine blk_drew ?_ | refine blk_alloc ?_ _)); exact BK402.out) hb); have n3_ := Aside0.mk (below_step (by repeat (first | (with_reducible first | exact HB.out | apply below_alloc | apply pw_below_drewN | apply below_drew1 | refine below_set ?_ GE390.out | refine below_set ?_ GE402.out) | exact HB.out)) hb); clear HO416; clear BK390; clear BK402; clear HB; have HO416 := n0_; have BK390 := n1_; have BK402 := n2_; have HB := n3_; clear n0_ n1_ n2_ n3_; (try clear hb); (try clear hb2); (try clear hk); (try clear hi)) | ((with_reducible refine gate_dst (N := 12) rfl ?_); refine box_event ?hg (N := 12) ?hd (cs := #[.int .i64 0, .int .i64 0, .int .i64 0, .int .i64 0, .int .i64 0]) (t := 42) ?hr ?_; (case hd => rfl); (case hg => rfl); (case hr => first | (go_simp; done) | (go_simp; rfl)); intro gb424 hg w70 hbox hb; have n0_ := Aside0.mk (Kd.R_below (by (with_reducible repeat (first | apply Kd.R_alloc | apply Kd.R_drewN | apply Kd.R_drew)); exact HO416.out) hb); have n1_ := Aside0.mk (blk_below (g := gb390) (o := .cells #[.int .i64 a0_0, .int .i64 a0_1, .int .i64 a0_2, .int .i64 a0_3, .int .i64 a0_4] 42 (0, 0)) (by (with_reducible repeat (first | refine blk_drewN ?_ _ | refine blk_drew ?_ | refine blk_alloc ?_ _)); exact BK390.out) hb); have n2_ := Aside0.mk (blk_below (g := gb402) (o := .cells #[.int .i64 t395, .int .i64 t396, .int .i64 t397, .int .i64 t398, .int .i64 t399] 42 (0, 0)) (by (with_reducible repeat (first | refine blk_drewN ?_ _ | refine blk_drew ?_ | refine blk_alloc ?_ _)); exact BK402.out) hb); have n3_ := Aside0.mk (below_step (by repeat (first | (with_reducible first | exact HB.out | apply below_alloc | apply pw_below_drewN | apply below_drew1 | refine below_set ?_ GE390.out | refine below_set ?_ GE402.out) | exact HB.out)) hb); have n4_ := Aside0.mk (hbox); have n5_ := Aside0.mk ((by rw [hg]; exact (below_size (by repeat (first | (with_reducible first | exact HB.out | apply below_alloc | apply pw_below_drewN | apply below_drew1 | refine below_set ?_ GE390.out | refine below_set ?_ GE402.out) | exact HB.out))) : w.heap.size ≤ gb424)); have n6_ := Aside0.mk ((by rw [hg]; exact (below_size (by repeat (first | (with_reducible first | exact HB.out | apply below_alloc | apply pw_below_drewN | apply below_drew1 | refine below_set ?_ GE390.out | refine below_set ?_ GE402.out) | exact HB.out))) : w.heap.size ≤ gb424)); have n7_ := Aside0.mk ((by rw [hg]; exact Nat.ne_of_lt (blk_lt (g := gb390) (o := .cells #[.int .i64 a0_0, .int .i64 a0_1, .int .i64 a0_2, .int .i64 a0_3, .int .i64 a0_4] 42 (0, 0)) (by (with_reducible repeat (first | refine blk_drewN ?_ _ | refine blk_drew ?_ | refine blk_alloc ?_ _)); exact BK390.out)) : gb390 ≠ gb424)); have n8_ := Aside0.mk ((by rw [hg]; exact Nat.ne_of_gt (blk_lt (g := gb390) (o := .cells #[.int .i64 a0_0, .int .i64 a0_1, .int .i64 a0_2, .int .i64 a0_3, .int .i64 a0_4] 42 (0, 0)) (by (with_reducible repeat (first | refine blk_drewN ?_ _ | refine blk_drew ?_ | refine blk_alloc ?_ _)); exact BK390.out)) : gb424 ≠ gb390)); have n9_ := Aside0.mk ((by rw [hg]; exact Nat.ne_of_lt (blk_lt (g := gb402) (o := .cells #[.int .i64 t395, .int .i64 t396, .int .i64 t397, .int .i64 t398, .int .i64 t399] 42 (0, 0)) (by (with_reducible repeat (first | refine blk_drewN ?_ _ | refine blk_drew ?_ | refine blk_alloc ?_ _)); exact BK402.out)) : gb402 ≠ gb424)); have n10_ := Aside0.mk ((by rw [hg]; exact Nat.ne_of_gt (blk_lt (g := gb402) (o := .cells #[.int .i64 t395, .int .i64 t396, .int .i64 t397, .int .i64 t398, .int .i64 t399] 42 (0, 0)) (by (with_reducible repeat (first | refine blk_drewN ?_ _ | refine blk_drew ?_ | refine blk_alloc ?_ _)); exact BK402.out)) : gb424 ≠ gb402)); clear HO416; clear BK390; clear BK402; clear HB; have HO416 := n0_; have BK390 := n1_; have BK402 := n2_; have HB := n3_; have BK424 := n4_; have GW424 := n5_; have GE424 := n6_; have NB390_424 := n7_; have NB424_390 := n8_; have NB402_424 := n9_; have NB424_402 := n10_; clear n0_ n1_ n2_ n3_ n4_ n5_ n6_ n7_ n8_ n9_ n10_; clear hb hbox hg; have hnb71 := NB424_390.out; have hnc71 := NB390_424.out; have hnb72 := NB424_402.out; have hnc72 := NB402_424.out; have hcz73_0 : w70.cell? ⟨gb424, 0, none⟩ = some (.int .i64 0) := (blk_cell BK424.out 0).trans rfl; have hcz73_1 : w70.cell? ⟨gb424, 1, none⟩ = some (.int .i64 0) := (blk_cell BK424.out 1).trans rfl; have hcz73_2 : w70.cell? ⟨gb424, 2, none⟩ = some (.int .i64 0) := (blk_cell BK424.out 2).trans rfl; have hcz73_3 : w70.cell? ⟨gb424, 3, none⟩ = some (.int .i64 0) := (blk_cell BK424.out 3).trans rfl; have hcz73_4 : w70.cell? ⟨gb424, 4, none⟩ = some (.int .i64 0) := (blk_cell BK424.out 4).trans rfl; have hfz73_0 := blk_frozen BK424.out 0; have hfz73_1 := blk_frozen BK424.out 1; have hfz73_2 := blk_frozen BK424.out 2; have hfz73_3 := blk_frozen BK424.out 3; have hfz73_4 := blk_frozen BK424.out 4; have hnb74 := NB390_402.out; have hnc74 := NB402_390.out; have hcz75_0 : w70.cell? ⟨gb390, 0, none⟩ = some (.int .i64 a0_0) := (blk_cell BK390.out 0).trans rfl; have hcz75_1 : w70.cell? ⟨gb390, 1, none⟩ = some (.int .i64 a0_1) := (blk_cell BK390.out 1).trans rfl; have hcz75_2 : w70.cell? ⟨gb390, 2, none⟩ = some (.int .i64 a0_2) := (blk_cell BK390.out 2).trans rfl; have hcz75_3 : w70.cell? ⟨gb390, 3, none⟩ = some (.int .i64 a0_3) := (blk_cell BK390.out 3).trans rfl; have hcz75_4 : w70.cell? ⟨gb390, 4, none⟩ = some (.int .i64 a0_4) := (blk_cell BK390.out 4).trans rfl; have hfz75_0 := blk_frozen BK390.out 0; have hfz75_1 := blk_frozen BK390.out 1; have hfz75_2 := blk_frozen BK390.out 2; have hfz75_3 := blk_frozen BK390.out 3; have hfz75_4 := blk_frozen BK390.out 4))
                          go_ret
                          exact ⟨by first | rfl | (simp [errW_none, errW_some] <;> rfl) | (simp [*, errW_none, errW_some] <;> rfl), by repeat (first | (with_reducible first | exact HB.out | apply below_alloc | apply pw_below_drewN | apply below_drew1 | refine below_set ?_ GE390.out | refine below_set ?_ GE402.out | refine below_set ?_ GE424.out) | exact HB.out)⟩
                        · rw [if_neg c64] at H
                          have c64b0 : (t417 == a0_0 && (t418 == a0_1 && (t419 == a0_2 && (t420 == a0_3 && (t421 == a0_4))))) = false := by simpa using c64
                          (try (have c64b1 : decide (t417 = a0_0 && (t418 == a0_1 && (t419 == a0_2 && (t420 == a0_3 && (t421 == a0_4))))) = false := by simpa using c64))
                          (try (have c64b2 : (t417 == a0_0 && (t418 == a0_1 && (t419 == a0_2 && (t420 == a0_3 && (t421 == a0_4))))) = false := by simpa using c64))
                          (try (have c64b3 : ¬ (t417 = a0_0 && (t418 == a0_1 && (t419 == a0_2 && (t420 == a0_3 && (t421 == a0_4))))) := by simpa using c64))
                          clear c64
                          exact absurd H (by simp)
                      · replace c63 := Bool.eq_false_iff.mpr c63
                        subst c63
                        have H1 : (some false) = some true := by rw [if_neg (show ¬ (false = true) by decide)] at H; exact H
                        clear H
                        have H := H1
                        clear H1
                        exact absurd H (by simp)
                    · replace c62 := Bool.eq_false_iff.mpr c62
                      subst c62
                      have H1 : (some false) = some true := by rw [if_neg (show ¬ (false = true) by decide)] at H; exact H
                      clear H
                      have H := H1
                      clear H1
                      exact absurd H (by simp)
                  · rw [if_neg c60] at H
                    exact absurd H (by simp)
        · replace c25 := Bool.eq_false_iff.mpr c25
          subst c25
          have H1 : (some t391) = some true := by rw [if_neg (show ¬ (false = true) by decide)] at H; exact H
          clear H
          have H := H1
          clear H1
          have hT := Option.some.inj H
          clear H
          try have hT2 : (t391) = true := by simpa using hT
          go_wp2
          go_ret
          exact ⟨by first | rfl | (simp [errW_none, errW_some] <;> rfl) | (simp [*, errW_none, errW_some] <;> rfl), by repeat (first | (with_reducible first | exact HB.out | apply below_alloc | apply pw_below_drewN | apply below_drew1 | refine below_set ?_ GE390.out) | exact HB.out)⟩

end Go.Proofs.YtghjemcbkackjaaDoor.P
