-- written by this project's program mkprint.py out of the translation; Lean checks it
import Derived.Test.YtghjemcbkackjaaDoorPx0
import Derived.Test.YtghjemcbkackjaaDoorPx1
import Derived.Test.YtghjemcbkackjaaDoorPx4
import Derived.Test.YtghjemcbkackjaaDoorPx5
import Derived.Test.YtghjemcbkackjaaDoorPx7
import Derived.Test.YtghjemcbkackjaaDoorPxS
namespace Go.Proofs.YtghjemcbkackjaaDoor.P
open Go.Proofs.YtghjemcbkackjaaDoor.F
open Go.RowKit Go.Proofs.YtghjemcbkackjaaDoorW.PrintWords Go.Proofs.YtghjemcbkackjaaDoorW.PrintLast Go.Proofs.YtghjemcbkackjaaDoorW.PrintMore
attribute [local go_sem] max2_int min2_int max_two min_two max_three min_three max_four min_four   -- for this text's walks alone
set_option linter.unusedVariables false
set_option linter.unusedSimpArgs false

attribute [local go_sem high] eqA42
/-! ### epactlaw17_RuleReads: function 10 -/
def epactlaw17_RuleReads.j0 : Nat → Bool → Bool → Int → Int → Int → Int → Int → Option (Bool)
  | 0, _, _, _, _, _, _, _ => none
  | k + 1, x3, x51, x446000, x446001, x446002, x446003, x446004 => if x51 = true then (some false) else ((rule_Text.f k x446000 x446001 x446002 x446003 x446004).bind fun bt446 => ((rule_Parse.f k bt446.1).bind fun bt448 => (if x3 = true then ((rule_Right.f x446000 x446001 x446002 x446003 x446004).bind fun t456 => (if t456 = true then (if bt446.2 = true then (if bt448.2.2.2.2.2.2 = true then (some (bt448.1 == x446000 && (bt448.2.1 == x446001 && (bt448.2.2.1 == x446002 && (bt448.2.2.2.1 == x446003 && (bt448.2.2.2.2.1 == x446004)))))) else (some false)) else (some false)) else (some false))) else (some false))))
def epactlaw17_RuleReads.f (k : Nat) (a0 : ByteArray) : Option (Bool) := (epactlaw17_smallF.f).bind fun t437 => (if (a0.size : Int) > 200 then (some t437) else ((rule_Parse.f k a0).bind fun bt438 => (if bt438.2.2.2.2.2.2 = true then (if (bt438.2.2.2.2.2.1.size : Int) ≥ (a0.size : Int) then (epactlaw17_RuleReads.j0 k t437 true bt438.1 bt438.2.1 bt438.2.2.1 bt438.2.2.2.1 bt438.2.2.2.2.1) else (if 0 ≤ (wrap64 ((a0.size : Int) - (bt438.2.2.2.2.2.1.size : Int))) then (if (wrap64 ((a0.size : Int) - (bt438.2.2.2.2.2.1.size : Int))) ≤ (a0.size : Int) then (epactlaw17_RuleReads.j0 k t437 ((a0.extract ((wrap64 ((a0.size : Int) - (bt438.2.2.2.2.2.1.size : Int))) : Int).toNat a0.size).toList != bt438.2.2.2.2.2.1.toList) bt438.1 bt438.2.1 bt438.2.2.1 bt438.2.2.2.1 bt438.2.2.2.2.1) else (none)) else (none))) else (if t437 = true then (if bt438.2.2.2.2.2.1.toList = a0.toList then (some (bt438.1 == 0 && (bt438.2.1 == 0 && (bt438.2.2.1 == 0 && (bt438.2.2.2.1 == 0 && (bt438.2.2.2.2.1 == 0)))))) else (some false)) else (some false)))))
theorem epactlaw17_RuleReads.mono_l : ∀ k, (∀ y0 y1 y2 y3 y4 y5 y6, LeO (epactlaw17_RuleReads.j0 k y0 y1 y2 y3 y4 y5 y6) (epactlaw17_RuleReads.j0 (k + 1) y0 y1 y2 y3 y4 y5 y6))
  | 0 => fun _ _ _ _ _ _ _ r h => by simp [epactlaw17_RuleReads.j0] at h
  | k + 1 => by
    have ih0 := epactlaw17_RuleReads.mono_l k
    · intro y0 y1 y2 y3 y4 y5 y6
      unfold epactlaw17_RuleReads.j0
      repeat' first
      | (with_reducible exact ih0 _ _ _ _ _ _ _)
      | (with_reducible exact rule_Parse.mono _ _)
      | (with_reducible exact rule_Text.mono _ _ _ _ _ _)
      | (with_reducible exact LeO.refl _)
      | (with_reducible exact LeO.none _)
      | (with_reducible refine LeO.ite ?_ ?_)
      | (with_reducible refine LeO.bind ?_ (fun _ => ?_))
      | exact ih0 _ _ _ _ _ _ _
      | exact rule_Parse.mono _ _
      | exact rule_Text.mono _ _ _ _ _ _
      | exact LeO.none _
      | refine LeO.ite ?_ ?_
      | refine LeO.bind ?_ (fun _ => ?_)
theorem epactlaw17_RuleReads.mono : ∀ a0 k, LeO (epactlaw17_RuleReads.f k a0) (epactlaw17_RuleReads.f (k + 1) a0) := by
  intro a0 k
  have ih0 := epactlaw17_RuleReads.mono_l k
  unfold epactlaw17_RuleReads.f
  repeat' first
      | (with_reducible exact ih0 _ _ _ _ _ _ _)
      | (with_reducible exact rule_Parse.mono _ _)
      | (with_reducible exact rule_Text.mono _ _ _ _ _ _)
      | (with_reducible exact LeO.refl _)
      | (with_reducible exact LeO.none _)
      | (with_reducible refine LeO.ite ?_ ?_)
      | (with_reducible refine LeO.bind ?_ (fun _ => ?_))
      | exact ih0 _ _ _ _ _ _ _
      | exact rule_Parse.mono _ _
      | exact rule_Text.mono _ _ _ _ _ _
      | exact LeO.none _
      | refine LeO.ite ?_ ?_
      | refine LeO.bind ?_ (fun _ => ?_)
set_option maxHeartbeats 8000000 in
set_option maxRecDepth 100000 in
theorem epactlaw17_RuleReads.calls (k : Nat) (a0 : ByteArray) (w : World) (hG : GW w) (h : epactlaw17_RuleReads.f k a0 = some true) :
    Calls Tryd.prog 10 #[.string a0] w fun e w' => e = .returned (.bool true) ∧ Below w.heap.size w w' := by
  have hu42 := Tryd.underlying42
  have HB := Aside0.mk (Below.refl w.heap.size w)
  have H : ((epactlaw17_smallF.f).bind fun t437 => (if (a0.size : Int) > 200 then (some t437) else ((rule_Parse.f k a0).bind fun bt438 => (if bt438.2.2.2.2.2.2 = true then (if (bt438.2.2.2.2.2.1.size : Int) ≥ (a0.size : Int) then (epactlaw17_RuleReads.j0 k t437 true bt438.1 bt438.2.1 bt438.2.2.1 bt438.2.2.2.1 bt438.2.2.2.2.1) else (if 0 ≤ (wrap64 ((a0.size : Int) - (bt438.2.2.2.2.2.1.size : Int))) then (if (wrap64 ((a0.size : Int) - (bt438.2.2.2.2.2.1.size : Int))) ≤ (a0.size : Int) then (epactlaw17_RuleReads.j0 k t437 ((a0.extract ((wrap64 ((a0.size : Int) - (bt438.2.2.2.2.2.1.size : Int))) : Int).toNat a0.size).toList != bt438.2.2.2.2.2.1.toList) bt438.1 bt438.2.1 bt438.2.2.1 bt438.2.2.2.1 bt438.2.2.2.2.1) else (none)) else (none))) else (if t437 = true then (if bt438.2.2.2.2.2.1.toList = a0.toList then (some (bt438.1 == 0 && (bt438.2.1 == 0 && (bt438.2.2.1 == 0 && (bt438.2.2.2.1 == 0 && (bt438.2.2.2.2.1 == 0)))))) else (some false)) else (some false)))))) = some true := h
  clear h
  replace H := Option.bind_eq_some_iff.mp H
  obtain ⟨t437, A20, H⟩ := H
  replace H : (if (a0.size : Int) > 200 then (some t437) else ((rule_Parse.f k a0).bind fun bt438 => (if bt438.2.2.2.2.2.2 = true then (if (bt438.2.2.2.2.2.1.size : Int) ≥ (a0.size : Int) then (epactlaw17_RuleReads.j0 k t437 true bt438.1 bt438.2.1 bt438.2.2.1 bt438.2.2.2.1 bt438.2.2.2.2.1) else (if 0 ≤ (wrap64 ((a0.size : Int) - (bt438.2.2.2.2.2.1.size : Int))) then (if (wrap64 ((a0.size : Int) - (bt438.2.2.2.2.2.1.size : Int))) ≤ (a0.size : Int) then (epactlaw17_RuleReads.j0 k t437 ((a0.extract ((wrap64 ((a0.size : Int) - (bt438.2.2.2.2.2.1.size : Int))) : Int).toNat a0.size).toList != bt438.2.2.2.2.2.1.toList) bt438.1 bt438.2.1 bt438.2.2.1 bt438.2.2.2.1 bt438.2.2.2.2.1) else (none)) else (none))) else (if t437 = true then (if bt438.2.2.2.2.2.1.toList = a0.toList then (some (bt438.1 == 0 && (bt438.2.1 == 0 && (bt438.2.2.1 == 0 && (bt438.2.2.2.1 == 0 && (bt438.2.2.2.2.1 == 0)))))) else (some false)) else (some false))))) = some true := H
  have A2 := Aside0.mk A20
  clear A20
  by_cases c3 : (a0.size : Int) > 200
  · rw [if_pos c3] at H
    have c3b0 : decide (200 < (a0.size : Int)) = true := decide_eq_true c3
    have c3b1 : decide (200 < a0.size) = true := decide_eq_true (by omega)
    clear c3
    have hT := Option.some.inj H
    clear H
    try have hT2 : (t437) = true := by simpa using hT
    go_enter Tryd.func10, Tryd.ntmps10
    go_wp2_with (first | ((with_reducible refine gate_callee (f := 21) rfl ?_); refine goesL_ (some 12) rfl rfl Tryd.func21 (by kernel_rfl) rfl #[] rfl (by (try simp only [List.map_toArray, List.map_cons, List.map_nil]); first | done | rfl | (simp only [List.length_drop, List.length_take]; rfl)) ?_; (with_reducible refine (epactlaw17_smallF.calls  t437 _ ?side704 A2.out).mono ?_); (case side704 => first | exact hG | exact hG.at1 HB | exact hG.drewN _ | (refine hG.below ?_; repeat (first | (with_reducible first | exact HB.out | apply below_alloc | apply pw_below_drewN | apply below_drew1) | exact HB.out))); rintro e w5 ⟨rfl, hb⟩; refine ⟨_, rfl, ?_⟩; have n0_ := Aside0.mk (below_step (by repeat (first | (with_reducible first | exact HB.out | apply below_alloc | apply pw_below_drewN | apply below_drew1) | exact HB.out)) hb); clear HB; have HB := n0_; clear n0_; (try clear hb); (try clear hb2); (try clear hk); (try clear hi)))
    go_ret
    exact ⟨by first | rfl | (simp [errW_none, errW_some] <;> rfl) | (simp [*, errW_none, errW_some] <;> rfl), by repeat (first | (with_reducible first | exact HB.out | apply below_alloc | apply pw_below_drewN | apply below_drew1) | exact HB.out)⟩
  · rw [if_neg c3] at H
    have c3b0 : decide (200 < (a0.size : Int)) = false := decide_eq_false c3
    have c3b1 : decide (200 < a0.size) = false := decide_eq_false (by omega)
    clear c3
    replace H := Option.bind_eq_some_iff.mp H
    obtain ⟨⟨t438, t439, t440, t441, t442, t443, t444⟩, A60, H⟩ := H
    replace H : (if t444 = true then (if (t443.size : Int) ≥ (a0.size : Int) then (epactlaw17_RuleReads.j0 k t437 true t438 t439 t440 t441 t442) else (if 0 ≤ (wrap64 ((a0.size : Int) - (t443.size : Int))) then (if (wrap64 ((a0.size : Int) - (t443.size : Int))) ≤ (a0.size : Int) then (epactlaw17_RuleReads.j0 k t437 ((a0.extract ((wrap64 ((a0.size : Int) - (t443.size : Int))) : Int).toNat a0.size).toList != t443.toList) t438 t439 t440 t441 t442) else (none)) else (none))) else (if t437 = true then (if t443.toList = a0.toList then (some (t438 == 0 && (t439 == 0 && (t440 == 0 && (t441 == 0 && (t442 == 0)))))) else (some false)) else (some false))) = some true := H
    have A6 := Aside0.mk A60
    clear A60
    by_cases c7 : t444 = true
    · subst c7
      have H1 : (if (t443.size : Int) ≥ (a0.size : Int) then (epactlaw17_RuleReads.j0 k t437 true t438 t439 t440 t441 t442) else (if 0 ≤ (wrap64 ((a0.size : Int) - (t443.size : Int))) then (if (wrap64 ((a0.size : Int) - (t443.size : Int))) ≤ (a0.size : Int) then (epactlaw17_RuleReads.j0 k t437 ((a0.extract ((wrap64 ((a0.size : Int) - (t443.size : Int))) : Int).toNat a0.size).toList != t443.toList) t438 t439 t440 t441 t442) else (none)) else (none))) = some true := by rw [if_pos rfl] at H; exact H
      clear H
      have H := H1
      clear H1
      have HC8 := Aside0.mk H
      clear H
      go_enter Tryd.func10, Tryd.ntmps10
      go_upto_region 7 with (first | ((with_reducible refine gate_callee (f := 21) rfl ?_); refine goesL_ (some 12) rfl rfl Tryd.func21 (by kernel_rfl) rfl #[] rfl (by (try simp only [List.map_toArray, List.map_cons, List.map_nil]); first | done | rfl | (simp only [List.length_drop, List.length_take]; rfl)) ?_; (with_reducible refine (epactlaw17_smallF.calls  t437 _ ?side709 A2.out).mono ?_); (case side709 => first | exact hG | exact hG.at1 HB | exact hG.drewN _ | (refine hG.below ?_; repeat (first | (with_reducible first | exact HB.out | apply below_alloc | apply pw_below_drewN | apply below_drew1) | exact HB.out))); rintro e w10 ⟨rfl, hb⟩; refine ⟨_, rfl, ?_⟩; have n0_ := Aside0.mk (below_step (by repeat (first | (with_reducible first | exact HB.out | apply below_alloc | apply pw_below_drewN | apply below_drew1) | exact HB.out)) hb); clear HB; have HB := n0_; clear n0_; (try clear hb); (try clear hb2); (try clear hk); (try clear hi)) | ((with_reducible refine gate_callee (f := 28) rfl ?_); refine goesL_ (some 19) rfl rfl Tryd.func28 (by kernel_rfl) rfl #[.string a0] rfl (by (try simp only [List.map_toArray, List.map_cons, List.map_nil]); first | done | rfl | (simp only [List.length_drop, List.length_take]; rfl)) ?_; (with_reducible refine (rule_Parse.calls k a0 t438 t439 t440 t441 t442 t443 true _ ?side711 A6.out).mono ?_); (case side711 => first | exact hG | exact hG.at1 HB | exact hG.drewN _ | (refine hG.below ?_; repeat (first | (with_reducible first | exact HB.out | apply below_alloc | apply pw_below_drewN | apply below_drew1) | exact HB.out))); rintro e w12 ⟨rfl, hb⟩; refine ⟨_, rfl, ?_⟩; have n0_ := Aside0.mk (below_step (by repeat (first | (with_reducible first | exact HB.out | apply below_alloc | apply pw_below_drewN | apply below_drew1) | exact HB.out)) hb); clear HB; have HB := n0_; clear n0_; (try clear hb); (try clear hb2); (try clear hk); (try clear hi)) | ((with_reducible refine gate_dst (N := 4) rfl ?_); (try (refine gate_guard (by rfl) ?_; dsimp only)); refine box_event ?hg (N := 4) ?hd (cs := #[.int .i64 0, .int .i64 0, .int .i64 0, .int .i64 0, .int .i64 0]) (t := 42) ?hr ?_; (case hd => rfl); (case hg => rfl); (case hr => first | (go_simp; done) | (go_simp; rfl)); intro gb445 hg w13 hbox hb; have n0_ := Aside0.mk (below_step (by repeat (first | (with_reducible first | exact HB.out | apply below_alloc | apply pw_below_drewN | apply below_drew1) | exact HB.out)) hb); have n1_ := Aside0.mk (hbox); have n2_ := Aside0.mk ((by rw [hg]; exact (below_size (by repeat (first | (with_reducible first | exact HB.out | apply below_alloc | apply pw_below_drewN | apply below_drew1) | exact HB.out))) : w.heap.size ≤ gb445)); have n3_ := Aside0.mk ((by rw [hg]; exact (below_size (by repeat (first | (with_reducible first | exact HB.out | apply below_alloc | apply pw_below_drewN | apply below_drew1) | exact HB.out))) : w.heap.size ≤ gb445)); clear HB; have HB := n0_; have BK445 := n1_; have GW445 := n2_; have GE445 := n3_; clear n0_ n1_ n2_ n3_; clear hb hbox hg; have hcz14_0 : w13.cell? ⟨gb445, 0, none⟩ = some (.int .i64 0) := (blk_cell BK445.out 0).trans rfl; have hcz14_1 : w13.cell? ⟨gb445, 1, none⟩ = some (.int .i64 0) := (blk_cell BK445.out 1).trans rfl; have hcz14_2 : w13.cell? ⟨gb445, 2, none⟩ = some (.int .i64 0) := (blk_cell BK445.out 2).trans rfl; have hcz14_3 : w13.cell? ⟨gb445, 3, none⟩ = some (.int .i64 0) := (blk_cell BK445.out 3).trans rfl; have hcz14_4 : w13.cell? ⟨gb445, 4, none⟩ = some (.int .i64 0) := (blk_cell BK445.out 4).trans rfl; have hfz14_0 := blk_frozen BK445.out 0; have hfz14_1 := blk_frozen BK445.out 1; have hfz14_2 := blk_frozen BK445.out 2; have hfz14_3 := blk_frozen BK445.out 3; have hfz14_4 := blk_frozen BK445.out 4))
      (try simp only [Act.put, List.setIfInBounds_toArray, List.set_cons_zero, List.set_cons_succ])
      go_cut [51] (fun v51 wc => ∃ (kq : Nat) (x51_7 : Bool), v51 = .bool x51_7 ∧ Aside0 (epactlaw17_RuleReads.j0 kq t437 x51_7 t438 t439 t440 t441 t442 = some true) ∧ Aside0 (kq ≤ k) ∧ Aside0 (wc.heap[gb445]? = some (.cells #[.int .i64 t438, .int .i64 t439, .int .i64 t440, .int .i64 t441, .int .i64 t442] 42 (0, 0))) ∧ Aside0 (Below w.heap.size w wc))
      case first =>
        have H := HC8.out
        clear HC8
        by_cases c15 : (t443.size : Int) ≥ (a0.size : Int)
        · rw [if_pos c15] at H
          have c15b0 : decide ((a0.size : Int) ≤ (t443.size : Int)) = true := decide_eq_true c15
          have c15b1 : decide (a0.size ≤ t443.size) = true := decide_eq_true (Int.ofNat_le.mp c15)
          clear c15
          (first | rw [c15b0] | (simp only [i64_w, i32_w]; rw [c15b0]) | skip)
          have H' := Aside0.mk H
          clear H
          go_wp2
          go_meet
          case rel => exact ⟨_, (true), (by first | rfl | (simp; done) | (simp [*]; done) | (refine congrArg _ ?_; rw [Bool.eq_iff_iff]; simp; done)), H', ⟨by first | omega | exact Nat.le_refl _⟩, ⟨by (with_reducible repeat (first | refine blk_drewN ?_ _ | refine blk_drew ?_ | refine blk_alloc ?_ _)); refine blk_put (cs := #[.int .i64 t438, .int .i64 t439, .int .i64 t440, .int .i64 t441, .int .i64 0]) ?_ 4 _ rfl; (with_reducible repeat (first | refine blk_drewN ?_ _ | refine blk_drew ?_ | refine blk_alloc ?_ _)); refine blk_put (cs := #[.int .i64 t438, .int .i64 t439, .int .i64 t440, .int .i64 0, .int .i64 0]) ?_ 3 _ rfl; (with_reducible repeat (first | refine blk_drewN ?_ _ | refine blk_drew ?_ | refine blk_alloc ?_ _)); refine blk_put (cs := #[.int .i64 t438, .int .i64 t439, .int .i64 0, .int .i64 0, .int .i64 0]) ?_ 2 _ rfl; (with_reducible repeat (first | refine blk_drewN ?_ _ | refine blk_drew ?_ | refine blk_alloc ?_ _)); refine blk_put (cs := #[.int .i64 t438, .int .i64 0, .int .i64 0, .int .i64 0, .int .i64 0]) ?_ 1 _ rfl; (with_reducible repeat (first | refine blk_drewN ?_ _ | refine blk_drew ?_ | refine blk_alloc ?_ _)); refine blk_put (cs := #[.int .i64 0, .int .i64 0, .int .i64 0, .int .i64 0, .int .i64 0]) ?_ 0 _ rfl; (with_reducible repeat (first | refine blk_drewN ?_ _ | refine blk_drew ?_ | refine blk_alloc ?_ _)); exact BK445.out⟩, ⟨by repeat (first | (with_reducible first | exact HB.out | apply below_alloc | apply pw_below_drewN | apply below_drew1 | refine below_set ?_ GE445.out) | exact HB.out)⟩⟩
        · rw [if_neg c15] at H
          have c15b0 : decide ((a0.size : Int) ≤ (t443.size : Int)) = false := decide_eq_false c15
          have c15b1 : decide (a0.size ≤ t443.size) = false := decide_eq_false (fun h => c15 (Int.ofNat_le.mpr h))
          clear c15
          (first | rw [c15b0] | (simp only [i64_w, i32_w]; rw [c15b0]) | skip)
          obtain ⟨ji16, hji16⟩ : ∃ j_ : Int, (wrap64 ((a0.size : Int) - (t443.size : Int))) = j_ := ⟨_, rfl⟩
          replace H : (if 0 ≤ (ji16) then (if (ji16) ≤ (a0.size : Int) then (epactlaw17_RuleReads.j0 k t437 ((a0.extract ((ji16) : Int).toNat a0.size).toList != t443.toList) t438 t439 t440 t441 t442) else (none)) else (none)) = some true := by first | (rw [hji16] at H; exact H) | (simp only [hji16] at H ⊢; exact H)
          have hji16w : (IntKind.i64.wrap ((a0.size : Int) - (t443.size : Int))) = ji16 := (i64_w _).trans hji16
          by_cases c17 : 0 ≤ (ji16)
          · rw [if_pos c17] at H
            have c17b0 := eq_true c17
            have c17b1 : decide (0 ≤ (ji16)) = true := decide_eq_true c17
            clear c17
            by_cases c18 : (ji16) ≤ (a0.size : Int)
            · rw [if_pos c18] at H
              have c18b0 := eq_true c18
              have c18b1 : decide ((ji16) ≤ (a0.size : Int)) = true := decide_eq_true c18
              clear c18
              have H' := Aside0.mk H
              clear H
              go_wp2
              go_meet
              case rel => exact ⟨_, (((a0.extract ((ji16) : Int).toNat a0.size).toList != t443.toList)), (by first | rfl | (simp; done) | (simp only [← hji16] <;> (first | rfl | simp)) | (simp [*]; done)), H', ⟨by first | omega | exact Nat.le_refl _⟩, ⟨by (with_reducible repeat (first | refine blk_drewN ?_ _ | refine blk_drew ?_ | refine blk_alloc ?_ _)); refine blk_put (cs := #[.int .i64 t438, .int .i64 t439, .int .i64 t440, .int .i64 t441, .int .i64 0]) ?_ 4 _ rfl; (with_reducible repeat (first | refine blk_drewN ?_ _ | refine blk_drew ?_ | refine blk_alloc ?_ _)); refine blk_put (cs := #[.int .i64 t438, .int .i64 t439, .int .i64 t440, .int .i64 0, .int .i64 0]) ?_ 3 _ rfl; (with_reducible repeat (first | refine blk_drewN ?_ _ | refine blk_drew ?_ | refine blk_alloc ?_ _)); refine blk_put (cs := #[.int .i64 t438, .int .i64 t439, .int .i64 0, .int .i64 0, .int .i64 0]) ?_ 2 _ rfl; (with_reducible repeat (first | refine blk_drewN ?_ _ | refine blk_drew ?_ | refine blk_alloc ?_ _)); refine blk_put (cs := #[.int .i64 t438, .int .i64 0, .int .i64 0, .int .i64 0, .int .i64 0]) ?_ 1 _ rfl; (with_reducible repeat (first | refine blk_drewN ?_ _ | refine blk_drew ?_ | refine blk_alloc ?_ _)); refine blk_put (cs := #[.int .i64 0, .int .i64 0, .int .i64 0, .int .i64 0, .int .i64 0]) ?_ 0 _ rfl; (with_reducible repeat (first | refine blk_drewN ?_ _ | refine blk_drew ?_ | refine blk_alloc ?_ _)); exact BK445.out⟩, ⟨by repeat (first | (with_reducible first | exact HB.out | apply below_alloc | apply pw_below_drewN | apply below_drew1 | refine below_set ?_ GE445.out) | exact HB.out)⟩⟩
            · rw [if_neg c18] at H
              exact absurd H (by simp)
          · rw [if_neg c17] at H
            exact absurd H (by simp)
      case rest =>
        clear HC8
        try clear c1
        try clear c2
        try clear p2
        try clear c3
        try clear c3b0
        try clear c3b1
        try clear p6
        try clear c7
        try clear c10
        try clear c15
        try clear c15b0
        try clear c15b1
        try clear c17
        try clear c17b0
        try clear c17b1
        try clear c18
        try clear c18b0
        try clear c18b1
        try clear hcz14_0
        try clear hcz14_1
        try clear hcz14_2
        try clear hcz14_3
        try clear hcz14_4
        try clear hfz14_0
        try clear hfz14_1
        try clear hfz14_2
        try clear hfz14_3
        try clear hfz14_4
        obtain ⟨kq, x51_7, rfl, HA, HJ7, BK445, HB⟩ := hcut
        cases kq with
        | zero => exact absurd HA.out (by simp [epactlaw17_RuleReads.j0])
        | succ kj7 =>
          have H := HA.out
          clear HA
          simp only [epactlaw17_RuleReads.j0] at H
          by_cases c19 : x51_7 = true
          · subst c19
            have H1 : (some false) = some true := by rw [if_pos rfl] at H; exact H
            clear H
            have H := H1
            clear H1
            exact absurd H (by simp)
          · replace c19 := Bool.eq_false_iff.mpr c19
            subst c19
            have H1 : ((rule_Text.f kj7 t438 t439 t440 t441 t442).bind fun bt446 => ((rule_Parse.f kj7 bt446.1).bind fun bt448 => (if t437 = true then ((rule_Right.f t438 t439 t440 t441 t442).bind fun t456 => (if t456 = true then (if bt446.2 = true then (if bt448.2.2.2.2.2.2 = true then (some (bt448.1 == t438 && (bt448.2.1 == t439 && (bt448.2.2.1 == t440 && (bt448.2.2.2.1 == t441 && (bt448.2.2.2.2.1 == t442)))))) else (some false)) else (some false)) else (some false))) else (some false)))) = some true := by rw [if_neg (show ¬ (false = true) by decide)] at H; exact H
            clear H
            have H := H1
            clear H1
            replace H := Option.bind_eq_some_iff.mp H
            obtain ⟨⟨t446, t447⟩, A200, H⟩ := H
            replace H : ((rule_Parse.f kj7 t446).bind fun bt448 => (if t437 = true then ((rule_Right.f t438 t439 t440 t441 t442).bind fun t456 => (if t456 = true then (if t447 = true then (if bt448.2.2.2.2.2.2 = true then (some (bt448.1 == t438 && (bt448.2.1 == t439 && (bt448.2.2.1 == t440 && (bt448.2.2.2.1 == t441 && (bt448.2.2.2.2.1 == t442)))))) else (some false)) else (some false)) else (some false))) else (some false))) = some true := H
            have A20 := Aside0.mk A200
            clear A200
            replace H := Option.bind_eq_some_iff.mp H
            obtain ⟨⟨t448, t449, t450, t451, t452, t453, t454⟩, A210, H⟩ := H
            replace H : (if t437 = true then ((rule_Right.f t438 t439 t440 t441 t442).bind fun t456 => (if t456 = true then (if t447 = true then (if t454 = true then (some (t448 == t438 && (t449 == t439 && (t450 == t440 && (t451 == t441 && (t452 == t442)))))) else (some false)) else (some false)) else (some false))) else (some false)) = some true := H
            have A21 := Aside0.mk A210
            clear A210
            by_cases c22 : t437 = true
            · subst c22
              have H1 : ((rule_Right.f t438 t439 t440 t441 t442).bind fun t456 => (if t456 = true then (if t447 = true then (if t454 = true then (some (t448 == t438 && (t449 == t439 && (t450 == t440 && (t451 == t441 && (t452 == t442)))))) else (some false)) else (some false)) else (some false))) = some true := by rw [if_pos rfl] at H; exact H
              clear H
              have H := H1
              clear H1
              replace H := Option.bind_eq_some_iff.mp H
              obtain ⟨t456, A230, H⟩ := H
              replace H : (if t456 = true then (if t447 = true then (if t454 = true then (some (t448 == t438 && (t449 == t439 && (t450 == t440 && (t451 == t441 && (t452 == t442)))))) else (some false)) else (some false)) else (some false)) = some true := H
              have A23 := Aside0.mk A230
              clear A230
              by_cases c24 : t456 = true
              · subst c24
                have H1 : (if t447 = true then (if t454 = true then (some (t448 == t438 && (t449 == t439 && (t450 == t440 && (t451 == t441 && (t452 == t442)))))) else (some false)) else (some false)) = some true := by rw [if_pos rfl] at H; exact H
                clear H
                have H := H1
                clear H1
                by_cases c25 : t447 = true
                · subst c25
                  have H1 : (if t454 = true then (some (t448 == t438 && (t449 == t439 && (t450 == t440 && (t451 == t441 && (t452 == t442)))))) else (some false)) = some true := by rw [if_pos rfl] at H; exact H
                  clear H
                  have H := H1
                  clear H1
                  by_cases c26 : t454 = true
                  · subst c26
                    have H1 : (some (t448 == t438 && (t449 == t439 && (t450 == t440 && (t451 == t441 && (t452 == t442)))))) = some true := by rw [if_pos rfl] at H; exact H
                    clear H
                    have H := H1
                    clear H1
                    have hT := Option.some.inj H
                    clear H
                    try have hT2 : ((t448 == t438 && (t449 == t439 && (t450 == t440 && (t451 == t441 && (t452 == t442)))))) = true := by simpa using hT
                    have hcz27_0 : wc.cell? ⟨gb445, 0, none⟩ = some (.int .i64 t438) := (blk_cell BK445.out 0).trans rfl
                    have hcz27_1 : wc.cell? ⟨gb445, 1, none⟩ = some (.int .i64 t439) := (blk_cell BK445.out 1).trans rfl
                    have hcz27_2 : wc.cell? ⟨gb445, 2, none⟩ = some (.int .i64 t440) := (blk_cell BK445.out 2).trans rfl
                    have hcz27_3 : wc.cell? ⟨gb445, 3, none⟩ = some (.int .i64 t441) := (blk_cell BK445.out 3).trans rfl
                    have hcz27_4 : wc.cell? ⟨gb445, 4, none⟩ = some (.int .i64 t442) := (blk_cell BK445.out 4).trans rfl
                    have hfz27_0 := blk_frozen BK445.out 0
                    have hfz27_1 := blk_frozen BK445.out 1
                    have hfz27_2 := blk_frozen BK445.out 2
                    have hfz27_3 := blk_frozen BK445.out 3
                    have hfz27_4 := blk_frozen BK445.out 4
                    go_wp2_with (first | ((with_reducible refine gate_callee (f := 26) rfl ?_); refine goesL_ (some 54) rfl rfl Tryd.func26 (by kernel_rfl) rfl #[.agg #[.int .i64 t438, .int .i64 t439, .int .i64 t440, .int .i64 t441, .int .i64 t442]] rfl (by (try simp only [List.map_toArray, List.map_cons, List.map_nil]); first | done | rfl | (simp only [List.length_drop, List.length_take]; rfl)) ?_; (with_reducible refine (rule_Text.calls kj7 t438 t439 t440 t441 t442 t446 true _ ?side728 A20.out).mono ?_); (case side728 => first | exact hG | exact hG.at1 HB | exact hG.drewN _ | (refine hG.below ?_; repeat (first | (with_reducible first | exact HB.out | apply below_alloc | apply pw_below_drewN | apply below_drew1 | refine below_set ?_ GE445.out) | exact HB.out))); rintro e w29 ⟨rfl, hb⟩; refine ⟨_, rfl, ?_⟩; have n0_ := Aside0.mk (blk_below (g := gb445) (o := .cells #[.int .i64 t438, .int .i64 t439, .int .i64 t440, .int .i64 t441, .int .i64 t442] 42 (0, 0)) (by (with_reducible repeat (first | refine blk_drewN ?_ _ | refine blk_drew ?_ | refine blk_alloc ?_ _)); exact BK445.out) hb); have n1_ := Aside0.mk (below_step (by repeat (first | (with_reducible first | exact HB.out | apply below_alloc | apply pw_below_drewN | apply below_drew1 | refine below_set ?_ GE445.out) | exact HB.out)) hb); clear BK445; clear HB; have BK445 := n0_; have HB := n1_; clear n0_ n1_; (try clear hb); (try clear hb2); (try clear hk); (try clear hi)) | ((with_reducible refine gate_callee (f := 28) rfl ?_); refine goesL_ (some 59) rfl rfl Tryd.func28 (by kernel_rfl) rfl #[.string t446] rfl (by (try simp only [List.map_toArray, List.map_cons, List.map_nil]); first | done | rfl | (simp only [List.length_drop, List.length_take]; rfl)) ?_; (with_reducible refine (rule_Parse.calls kj7 t446 t448 t449 t450 t451 t452 t453 true _ ?side730 A21.out).mono ?_); (case side730 => first | exact hG | exact hG.at1 HB | exact hG.drewN _ | (refine hG.below ?_; repeat (first | (with_reducible first | exact HB.out | apply below_alloc | apply pw_below_drewN | apply below_drew1 | refine below_set ?_ GE445.out) | exact HB.out))); rintro e w31 ⟨rfl, hb⟩; refine ⟨_, rfl, ?_⟩; have n0_ := Aside0.mk (blk_below (g := gb445) (o := .cells #[.int .i64 t438, .int .i64 t439, .int .i64 t440, .int .i64 t441, .int .i64 t442] 42 (0, 0)) (by (with_reducible repeat (first | refine blk_drewN ?_ _ | refine blk_drew ?_ | refine blk_alloc ?_ _)); exact BK445.out) hb); have n1_ := Aside0.mk (below_step (by repeat (first | (with_reducible first | exact HB.out | apply below_alloc | apply pw_below_drewN | apply below_drew1 | refine below_set ?_ GE445.out) | exact HB.out)) hb); clear BK445; clear HB; have BK445 := n0_; have HB := n1_; clear n0_ n1_; (try clear hb); (try clear hb2); (try clear hk); (try clear hi)) | ((with_reducible refine gate_dst (N := 9) rfl ?_); (try (refine gate_guard (by rfl) ?_; dsimp only)); refine box_event ?hg (N := 9) ?hd (cs := #[.int .i64 0, .int .i64 0, .int .i64 0, .int .i64 0, .int .i64 0]) (t := 42) ?hr ?_; (case hd => rfl); (case hg => rfl); (case hr => first | (go_simp; done) | (go_simp; rfl)); intro gb455 hg w32 hbox hb; have n0_ := Aside0.mk (blk_below (g := gb445) (o := .cells #[.int .i64 t438, .int .i64 t439, .int .i64 t440, .int .i64 t441, .int .i64 t442] 42 (0, 0)) (by (with_reducible repeat (first | refine blk_drewN ?_ _ | refine blk_drew ?_ | refine blk_alloc ?_ _)); exact BK445.out) hb); have n1_ := Aside0.mk (below_step (by repeat (first | (with_reducible first | exact HB.out | apply below_alloc | apply pw_below_drewN | apply below_drew1 | refine below_set ?_ GE445.out) | exact HB.out)) hb); have n2_ := Aside0.mk (hbox); have n3_ := Aside0.mk ((by rw [hg]; exact (below_size (by repeat (first | (with_reducible first | exact HB.out | apply below_alloc | apply pw_below_drewN | apply below_drew1 | refine below_set ?_ GE445.out) | exact HB.out))) : w.heap.size ≤ gb455)); have n4_ := Aside0.mk ((by rw [hg]; exact (below_size (by repeat (first | (with_reducible first | exact HB.out | apply below_alloc | apply pw_below_drewN | apply below_drew1 | refine below_set ?_ GE445.out) | exact HB.out))) : w.heap.size ≤ gb455)); have n5_ := Aside0.mk ((by rw [hg]; exact Nat.ne_of_lt (blk_lt (g := gb445) (o := .cells #[.int .i64 t438, .int .i64 t439, .int .i64 t440, .int .i64 t441, .int .i64 t442] 42 (0, 0)) (by (with_reducible repeat (first | refine blk_drewN ?_ _ | refine blk_drew ?_ | refine blk_alloc ?_ _)); exact BK445.out)) : gb445 ≠ gb455)); have n6_ := Aside0.mk ((by rw [hg]; exact Nat.ne_of_gt (blk_lt (g := gb445) (o := .cells #[.int .i64 t438, .int .i64 t439, .int .i64 t440, .int .i64 t441, .int .i64 t442] 42 (0, 0)) (by (with_reducible repeat (first | refine blk_drewN ?_ _ | refine blk_drew ?_ | refine blk_alloc ?_ _)); exact BK445.out)) : gb455 ≠ gb445)); clear BK445; clear HB; have BK445 := n0_; have HB := n1_; have BK455 := n2_; have GW455 := n3_; have GE455 := n4_; have NB445_455 := n5_; have NB455_445 := n6_; clear n0_ n1_ n2_ n3_ n4_ n5_ n6_; clear hb hbox hg; have hnb33 := NB455_445.out; have hnc33 := NB445_455.out; have hcz34_0 : w32.cell? ⟨gb455, 0, none⟩ = some (.int .i64 0) := (blk_cell BK455.out 0).trans rfl; have hcz34_1 : w32.cell? ⟨gb455, 1, none⟩ = some (.int .i64 0) := (blk_cell BK455.out 1).trans rfl; have hcz34_2 : w32.cell? ⟨gb455, 2, none⟩ = some (.int .i64 0) := (blk_cell BK455.out 2).trans rfl; have hcz34_3 : w32.cell? ⟨gb455, 3, none⟩ = some (.int .i64 0) := (blk_cell BK455.out 3).trans rfl; have hcz34_4 : w32.cell? ⟨gb455, 4, none⟩ = some (.int .i64 0) := (blk_cell BK455.out 4).trans rfl; have hfz34_0 := blk_frozen BK455.out 0; have hfz34_1 := blk_frozen BK455.out 1; have hfz34_2 := blk_frozen BK455.out 2; have hfz34_3 := blk_frozen BK455.out 3; have hfz34_4 := blk_frozen BK455.out 4; have hcz35_0 : w32.cell? ⟨gb445, 0, none⟩ = some (.int .i64 t438) := (blk_cell BK445.out 0).trans rfl; have hcz35_1 : w32.cell? ⟨gb445, 1, none⟩ = some (.int .i64 t439) := (blk_cell BK445.out 1).trans rfl; have hcz35_2 : w32.cell? ⟨gb445, 2, none⟩ = some (.int .i64 t440) := (blk_cell BK445.out 2).trans rfl; have hcz35_3 : w32.cell? ⟨gb445, 3, none⟩ = some (.int .i64 t441) := (blk_cell BK445.out 3).trans rfl; have hcz35_4 : w32.cell? ⟨gb445, 4, none⟩ = some (.int .i64 t442) := (blk_cell BK445.out 4).trans rfl; have hfz35_0 := blk_frozen BK445.out 0; have hfz35_1 := blk_frozen BK445.out 1; have hfz35_2 := blk_frozen BK445.out 2; have hfz35_3 := blk_frozen BK445.out 3; have hfz35_4 := blk_frozen BK445.out 4) | (go_at_call 34; (with_reducible refine (rule_Right.calls t438 t439 t440 t441 t442 true _ ?side736 A23.out).mono ?_); (case side736 => first | exact hG | exact hG.at1 HB | exact hG.drewN _ | (refine hG.below ?_; repeat (first | (with_reducible first | exact HB.out | apply below_alloc | apply pw_below_drewN | apply below_drew1 | refine below_set ?_ GE445.out | refine below_set ?_ GE455.out) | exact HB.out))); rintro e w37 ⟨rfl, hb⟩; have n0_ := Aside0.mk (blk_below (g := gb445) (o := .cells #[.int .i64 t438, .int .i64 t439, .int .i64 t440, .int .i64 t441, .int .i64 t442] 42 (0, 0)) (by (with_reducible repeat (first | refine blk_drewN ?_ _ | refine blk_drew ?_ | refine blk_alloc ?_ _)); refine blk_far ?_ NB445_455.out _; (with_reducible repeat (first | refine blk_drewN ?_ _ | refine blk_drew ?_ | refine blk_alloc ?_ _)); refine blk_far ?_ NB445_455.out _; (with_reducible repeat (first | refine blk_drewN ?_ _ | refine blk_drew ?_ | refine blk_alloc ?_ _)); refine blk_far ?_ NB445_455.out _; (with_reducible repeat (first | refine blk_drewN ?_ _ | refine blk_drew ?_ | refine blk_alloc ?_ _)); refine blk_far ?_ NB445_455.out _; (with_reducible repeat (first | refine blk_drewN ?_ _ | refine blk_drew ?_ | refine blk_alloc ?_ _)); refine blk_far ?_ NB445_455.out _; (with_reducible repeat (first | refine blk_drewN ?_ _ | refine blk_drew ?_ | refine blk_alloc ?_ _)); exact BK445.out) hb); have n1_ := Aside0.mk (blk_below (g := gb455) (o := .cells #[.int .i64 t448, .int .i64 t449, .int .i64 t450, .int .i64 t451, .int .i64 t452] 42 (0, 0)) (by (with_reducible repeat (first | refine blk_drewN ?_ _ | refine blk_drew ?_ | refine blk_alloc ?_ _)); refine blk_put (cs := #[.int .i64 t448, .int .i64 t449, .int .i64 t450, .int .i64 t451, .int .i64 0]) ?_ 4 _ rfl; (with_reducible repeat (first | refine blk_drewN ?_ _ | refine blk_drew ?_ | refine blk_alloc ?_ _)); refine blk_put (cs := #[.int .i64 t448, .int .i64 t449, .int .i64 t450, .int .i64 0, .int .i64 0]) ?_ 3 _ rfl; (with_reducible repeat (first | refine blk_drewN ?_ _ | refine blk_drew ?_ | refine blk_alloc ?_ _)); refine blk_put (cs := #[.int .i64 t448, .int .i64 t449, .int .i64 0, .int .i64 0, .int .i64 0]) ?_ 2 _ rfl; (with_reducible repeat (first | refine blk_drewN ?_ _ | refine blk_drew ?_ | refine blk_alloc ?_ _)); refine blk_put (cs := #[.int .i64 t448, .int .i64 0, .int .i64 0, .int .i64 0, .int .i64 0]) ?_ 1 _ rfl; (with_reducible repeat (first | refine blk_drewN ?_ _ | refine blk_drew ?_ | refine blk_alloc ?_ _)); refine blk_put (cs := #[.int .i64 0, .int .i64 0, .int .i64 0, .int .i64 0, .int .i64 0]) ?_ 0 _ rfl; (with_reducible repeat (first | refine blk_drewN ?_ _ | refine blk_drew ?_ | refine blk_alloc ?_ _)); exact BK455.out) hb); have n2_ := Aside0.mk (below_step (by repeat (first | (with_reducible first | exact HB.out | apply below_alloc | apply pw_below_drewN | apply below_drew1 | refine below_set ?_ GE445.out | refine below_set ?_ GE455.out) | exact HB.out)) hb); clear BK445; clear BK455; clear HB; have BK445 := n0_; have BK455 := n1_; have HB := n2_; clear n0_ n1_ n2_; (try clear hb); (try clear hb2); (try clear hk); (try clear hi); have hcz38_0 : w37.cell? ⟨gb455, 0, none⟩ = some (.int .i64 t448) := (blk_cell BK455.out 0).trans rfl; have hcz38_1 : w37.cell? ⟨gb455, 1, none⟩ = some (.int .i64 t449) := (blk_cell BK455.out 1).trans rfl; have hcz38_2 : w37.cell? ⟨gb455, 2, none⟩ = some (.int .i64 t450) := (blk_cell BK455.out 2).trans rfl; have hcz38_3 : w37.cell? ⟨gb455, 3, none⟩ = some (.int .i64 t451) := (blk_cell BK455.out 3).trans rfl; have hcz38_4 : w37.cell? ⟨gb455, 4, none⟩ = some (.int .i64 t452) := (blk_cell BK455.out 4).trans rfl; have hfz38_0 := blk_frozen BK455.out 0; have hfz38_1 := blk_frozen BK455.out 1; have hfz38_2 := blk_frozen BK455.out 2; have hfz38_3 := blk_frozen BK455.out 3; have hfz38_4 := blk_frozen BK455.out 4; have hcz39_0 : w37.cell? ⟨gb445, 0, none⟩ = some (.int .i64 t438) := (blk_cell BK445.out 0).trans rfl; have hcz39_1 : w37.cell? ⟨gb445, 1, none⟩ = some (.int .i64 t439) := (blk_cell BK445.out 1).trans rfl; have hcz39_2 : w37.cell? ⟨gb445, 2, none⟩ = some (.int .i64 t440) := (blk_cell BK445.out 2).trans rfl; have hcz39_3 : w37.cell? ⟨gb445, 3, none⟩ = some (.int .i64 t441) := (blk_cell BK445.out 3).trans rfl; have hcz39_4 : w37.cell? ⟨gb445, 4, none⟩ = some (.int .i64 t442) := (blk_cell BK445.out 4).trans rfl; have hfz39_0 := blk_frozen BK445.out 0; have hfz39_1 := blk_frozen BK445.out 1; have hfz39_2 := blk_frozen BK445.out 2; have hfz39_3 := blk_frozen BK445.out 3; have hfz39_4 := blk_frozen BK445.out 4))
                    go_ret
                    exact ⟨by first | rfl | (simp [errW_none, errW_some] <;> rfl) | (simp [*, errW_none, errW_some] <;> rfl), by repeat (first | (with_reducible first | exact HB.out | apply below_alloc | apply pw_below_drewN | apply below_drew1 | refine below_set ?_ GE445.out | refine below_set ?_ GE455.out) | exact HB.out)⟩
                  · replace c26 := Bool.eq_false_iff.mpr c26
                    subst c26
                    have H1 : (some false) = some true := by rw [if_neg (show ¬ (false = true) by decide)] at H; exact H
                    clear H
                    have H := H1
                    clear H1
                    exact absurd H (by simp)
                · replace c25 := Bool.eq_false_iff.mpr c25
                  subst c25
                  have H1 : (some false) = some true := by rw [if_neg (show ¬ (false = true) by decide)] at H; exact H
                  clear H
                  have H := H1
                  clear H1
                  exact absurd H (by simp)
              · replace c24 := Bool.eq_false_iff.mpr c24
                subst c24
                have H1 : (some false) = some true := by rw [if_neg (show ¬ (false = true) by decide)] at H; exact H
                clear H
                have H := H1
                clear H1
                exact absurd H (by simp)
            · replace c22 := Bool.eq_false_iff.mpr c22
              subst c22
              have H1 : (some false) = some true := by rw [if_neg (show ¬ (false = true) by decide)] at H; exact H
              clear H
              have H := H1
              clear H1
              exact absurd H (by simp)
    · replace c7 := Bool.eq_false_iff.mpr c7
      subst c7
      have H1 : (if t437 = true then (if t443.toList = a0.toList then (some (t438 == 0 && (t439 == 0 && (t440 == 0 && (t441 == 0 && (t442 == 0)))))) else (some false)) else (some false)) = some true := by rw [if_neg (show ¬ (false = true) by decide)] at H; exact H
      clear H
      have H := H1
      clear H1
      by_cases c40 : t437 = true
      · subst c40
        have H1 : (if t443.toList = a0.toList then (some (t438 == 0 && (t439 == 0 && (t440 == 0 && (t441 == 0 && (t442 == 0)))))) else (some false)) = some true := by rw [if_pos rfl] at H; exact H
        clear H
        have H := H1
        clear H1
        by_cases c41 : t443.toList = a0.toList
        · rw [if_pos c41] at H
          have c41b0 : (t443.toList == a0.toList) = true := beq_iff_eq.mpr c41
          have c41b1 : (t443.toList != a0.toList) = false := bne_eq_false_iff_eq.mpr c41
          clear c41
          have hT := Option.some.inj H
          clear H
          try have hT2 : ((t438 == 0 && (t439 == 0 && (t440 == 0 && (t441 == 0 && (t442 == 0)))))) = true := by simpa using hT
          go_enter Tryd.func10, Tryd.ntmps10
          go_wp2_with (first | ((with_reducible refine gate_callee (f := 21) rfl ?_); refine goesL_ (some 12) rfl rfl Tryd.func21 (by kernel_rfl) rfl #[] rfl (by (try simp only [List.map_toArray, List.map_cons, List.map_nil]); first | done | rfl | (simp only [List.length_drop, List.length_take]; rfl)) ?_; (with_reducible refine (epactlaw17_smallF.calls  true _ ?side742 A2.out).mono ?_); (case side742 => first | exact hG | exact hG.at1 HB | exact hG.drewN _ | (refine hG.below ?_; repeat (first | (with_reducible first | exact HB.out | apply below_alloc | apply pw_below_drewN | apply below_drew1) | exact HB.out))); rintro e w43 ⟨rfl, hb⟩; refine ⟨_, rfl, ?_⟩; have n0_ := Aside0.mk (below_step (by repeat (first | (with_reducible first | exact HB.out | apply below_alloc | apply pw_below_drewN | apply below_drew1) | exact HB.out)) hb); clear HB; have HB := n0_; clear n0_; (try clear hb); (try clear hb2); (try clear hk); (try clear hi)) | ((with_reducible refine gate_callee (f := 28) rfl ?_); refine goesL_ (some 19) rfl rfl Tryd.func28 (by kernel_rfl) rfl #[.string a0] rfl (by (try simp only [List.map_toArray, List.map_cons, List.map_nil]); first | done | rfl | (simp only [List.length_drop, List.length_take]; rfl)) ?_; (with_reducible refine (rule_Parse.calls k a0 t438 t439 t440 t441 t442 t443 false _ ?side744 A6.out).mono ?_); (case side744 => first | exact hG | exact hG.at1 HB | exact hG.drewN _ | (refine hG.below ?_; repeat (first | (with_reducible first | exact HB.out | apply below_alloc | apply pw_below_drewN | apply below_drew1) | exact HB.out))); rintro e w45 ⟨rfl, hb⟩; refine ⟨_, rfl, ?_⟩; have n0_ := Aside0.mk (below_step (by repeat (first | (with_reducible first | exact HB.out | apply below_alloc | apply pw_below_drewN | apply below_drew1) | exact HB.out)) hb); clear HB; have HB := n0_; clear n0_; (try clear hb); (try clear hb2); (try clear hk); (try clear hi)) | ((with_reducible refine gate_dst (N := 4) rfl ?_); (try (refine gate_guard (by rfl) ?_; dsimp only)); refine box_event ?hg (N := 4) ?hd (cs := #[.int .i64 0, .int .i64 0, .int .i64 0, .int .i64 0, .int .i64 0]) (t := 42) ?hr ?_; (case hd => rfl); (case hg => rfl); (case hr => first | (go_simp; done) | (go_simp; rfl)); intro gb445 hg w46 hbox hb; have n0_ := Aside0.mk (below_step (by repeat (first | (with_reducible first | exact HB.out | apply below_alloc | apply pw_below_drewN | apply below_drew1) | exact HB.out)) hb); have n1_ := Aside0.mk (hbox); have n2_ := Aside0.mk ((by rw [hg]; exact (below_size (by repeat (first | (with_reducible first | exact HB.out | apply below_alloc | apply pw_below_drewN | apply below_drew1) | exact HB.out))) : w.heap.size ≤ gb445)); have n3_ := Aside0.mk ((by rw [hg]; exact (below_size (by repeat (first | (with_reducible first | exact HB.out | apply below_alloc | apply pw_below_drewN | apply below_drew1) | exact HB.out))) : w.heap.size ≤ gb445)); clear HB; have HB := n0_; have BK445 := n1_; have GW445 := n2_; have GE445 := n3_; clear n0_ n1_ n2_ n3_; clear hb hbox hg; have hcz47_0 : w46.cell? ⟨gb445, 0, none⟩ = some (.int .i64 0) := (blk_cell BK445.out 0).trans rfl; have hcz47_1 : w46.cell? ⟨gb445, 1, none⟩ = some (.int .i64 0) := (blk_cell BK445.out 1).trans rfl; have hcz47_2 : w46.cell? ⟨gb445, 2, none⟩ = some (.int .i64 0) := (blk_cell BK445.out 2).trans rfl; have hcz47_3 : w46.cell? ⟨gb445, 3, none⟩ = some (.int .i64 0) := (blk_cell BK445.out 3).trans rfl; have hcz47_4 : w46.cell? ⟨gb445, 4, none⟩ = some (.int .i64 0) := (blk_cell BK445.out 4).trans rfl; have hfz47_0 := blk_frozen BK445.out 0; have hfz47_1 := blk_frozen BK445.out 1; have hfz47_2 := blk_frozen BK445.out 2; have hfz47_3 := blk_frozen BK445.out 3; have hfz47_4 := blk_frozen BK445.out 4))
          go_ret
          exact ⟨by first | rfl | (simp [errW_none, errW_some] <;> rfl) | (simp [*, errW_none, errW_some] <;> rfl), by repeat (first | (with_reducible first | exact HB.out | apply below_alloc | apply pw_below_drewN | apply below_drew1 | refine below_set ?_ GE445.out) | exact HB.out)⟩
        · rw [if_neg c41] at H
          have c41b0 : (t443.toList == a0.toList) = false := beq_eq_false_iff_ne.mpr c41
          have c41b1 : (t443.toList != a0.toList) = true := bne_iff_ne.mpr c41
          exact absurd H (by simp)
      · replace c40 := Bool.eq_false_iff.mpr c40
        subst c40
        have H1 : (some false) = some true := by rw [if_neg (show ¬ (false = true) by decide)] at H; exact H
        clear H
        have H := H1
        clear H1
        exact absurd H (by simp)

/-- THE ONE PURE STATEMENT of epactlaw17_RuleReads: yours. -/
def epactlaw17_RuleReads.Pure : Prop := ∀ (a0 : ByteArray), a0.size ≤ 140737488351232 → ∃ k, epactlaw17_RuleReads.f k a0 = some true
theorem epactlaw17_RuleReads.walk (P : epactlaw17_RuleReads.Pure) (a0 : ByteArray) (w : World) (hG : GW w) (w0 : a0.size ≤ 140737488351232) :
    Calls Tryd.prog 10 #[.string a0] w fun e w' => e = .returned (.bool true) ∧ Below w.heap.size w w' := by
  obtain ⟨k, h⟩ := P a0 w0
  refine (epactlaw17_RuleReads.calls k a0 w hG h).mono ?_
  rintro e w' ⟨rfl, hd⟩
  exact ⟨rfl, hd⟩

end Go.Proofs.YtghjemcbkackjaaDoor.P
