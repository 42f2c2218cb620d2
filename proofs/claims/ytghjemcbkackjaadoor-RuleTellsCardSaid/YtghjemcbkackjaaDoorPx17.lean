-- written by this project's program mkprint.py out of the translation; Lean checks it
import Derived.Test.YtghjemcbkackjaaDoorPx0
import Derived.Test.YtghjemcbkackjaaDoorPx16
namespace Go.Proofs.YtghjemcbkackjaaDoor.P
open Go.Proofs.YtghjemcbkackjaaDoor.F
open Go.RowKit Go.Proofs.YtghjemcbkackjaaDoorW.PrintWords Go.Proofs.YtghjemcbkackjaaDoorW.PrintLast Go.Proofs.YtghjemcbkackjaaDoorW.PrintMore
attribute [local go_sem] max2_int min2_int max_two min_two max_three min_three max_four min_four   -- for this text's walks alone
set_option linter.unusedVariables false
set_option linter.unusedSimpArgs false

/-! ### epactref17_dot: function 69 -/
def epactref17_dot.f (k : Nat) (a0 : ByteArray) : Option (Int × ByteArray) := if (a0.size : Int) < 1 then (some ((-1), a0)) else (if 0 < (a0.size : Int) then (if (bt a0 0) = 46 then (if 1 ≤ (a0.size : Int) then ((epactref17_number.f k (a0.extract 1 a0.size) 1 1 9).bind fun bt296 => (some (bt296.1, bt296.2))) else (none)) else (some ((-1), a0))) else (none))
theorem epactref17_dot.mono : ∀ a0 k, LeO (epactref17_dot.f k a0) (epactref17_dot.f (k + 1) a0) := by
  intro a0 k
  unfold epactref17_dot.f
  repeat' first
      | (with_reducible exact epactref17_number.mono _ _ _ _ _)
      | (with_reducible exact LeO.refl _)
      | (with_reducible exact LeO.none _)
      | (with_reducible refine LeO.ite ?_ ?_)
      | (with_reducible refine LeO.bind ?_ (fun _ => ?_))
      | exact epactref17_number.mono _ _ _ _ _
      | exact LeO.none _
      | refine LeO.ite ?_ ?_
      | refine LeO.bind ?_ (fun _ => ?_)
set_option maxHeartbeats 8000000 in
set_option maxRecDepth 100000 in
theorem epactref17_dot.calls (k : Nat) (a0 : ByteArray) (r1 : Int) (r2 : ByteArray) (w : World) (hG : GW w) (h : epactref17_dot.f k a0 = some (r1, r2)) :
    Calls Tryd.prog 69 #[.string a0] w fun e w' => e = .returned (.tuple #[.int .i64 r1, .string r2]) ∧ Drawn0 w w' := by
  have H : (if (a0.size : Int) < 1 then (some ((-1), a0)) else (if 0 < (a0.size : Int) then (if (bt a0 0) = 46 then (if 1 ≤ (a0.size : Int) then ((epactref17_number.f k (a0.extract 1 a0.size) 1 1 9).bind fun bt296 => (some (bt296.1, bt296.2))) else (none)) else (some ((-1), a0))) else (none))) = some (r1, r2) := h
  clear h
  by_cases c2 : (a0.size : Int) < 1
  · rw [if_pos c2] at H
    have c2b0 : decide ((a0.size : Int) < 1) = true := decide_eq_true c2
    have c2b1 : decide (a0.size < 1) = true := decide_eq_true (by omega)
    clear c2
    simp only [Option.some.injEq, Prod.mk.injEq] at H
    obtain ⟨rfl, rfl⟩ := H
    go_enter Tryd.func69, Tryd.ntmps69
    go_wp2
    go_ret2
    exact ⟨by first | rfl | (simp; done) | (simp [*]; done) | (refine congrArg _ ?_; rw [Bool.eq_iff_iff]; simp; done), by repeat (first | exact Drawn0.refl _ | apply Drawn0.step)⟩
  · rw [if_neg c2] at H
    have c2b0 : decide ((a0.size : Int) < 1) = false := decide_eq_false c2
    have c2b1 : decide (a0.size < 1) = false := decide_eq_false (by omega)
    clear c2
    by_cases c3 : 0 < (a0.size : Int)
    · rw [if_pos c3] at H
      have c3b0 : decide (0 < (a0.size : Int)) = true := decide_eq_true c3
      have c3b1 : decide (0 < a0.size) = true := decide_eq_true (by omega)
      clear c3
      by_cases c5 : (bt a0 0) = 46
      · rw [if_pos c5] at H
        have c5b0 : ((bt a0 0) == 46) = true := beq_iff_eq.mpr c5
        have c5b1 : ((bt a0 0) != 46) = false := bne_eq_false_iff_eq.mpr c5
        clear c5
        by_cases c6 : 1 ≤ (a0.size : Int)
        · rw [if_pos c6] at H
          have c6b0 := eq_true c6
          have c6b1 : decide (1 ≤ (a0.size : Int)) = true := decide_eq_true c6
          clear c6
          replace H := Option.bind_eq_some_iff.mp H
          obtain ⟨⟨t296, t297⟩, A70, H⟩ := H
          replace H : (some (t296, t297)) = some (r1, r2) := H
          have A7 := Aside0.mk A70
          clear A70
          simp only [Option.some.injEq, Prod.mk.injEq] at H
          obtain ⟨rfl, rfl⟩ := H
          have p4 : 0 ≤ (0 : Int) := (by omega)
          have q4 : 0 < a0.size := (by have : (0 : Int) < (a0.size : Int) := of_decide_eq_true (by first | (with_reducible assumption) | assumption); omega)
          have hx4 : ∀ h : 0 < a0.size, ((a0[0]'h).toNat : Int) = bt a0 0 := bt_at a0 0
          clear p4
          have qi4 : (0 < (a0.size : Int)) = True := eq_true (of_decide_eq_true (by first | (with_reducible assumption) | assumption))
          replace q4 := eq_true q4
          go_enter Tryd.func69, Tryd.ntmps69
          go_wp2_with (first | ((with_reducible refine gate_callee (f := 68) rfl ?_); refine goesL_ (some 15) rfl rfl Tryd.func68 (by kernel_rfl) rfl #[.string (a0.extract 1 a0.size), .int .i64 1, .int .i64 1, .int .i64 9] rfl (by (try simp only [List.map_toArray, List.map_cons, List.map_nil]); first | done | rfl | (simp only [List.length_drop, List.length_take]; rfl)) ?_; (with_reducible refine (epactref17_number.calls k (a0.extract 1 a0.size) 1 1 9 t296 t297 _ ?side708 A7.out).mono ?_); (case side708 => first | exact hG | exact hG.drewN _ | (refine hG.drawn ?_; repeat (first | exact Drawn0.refl _ | assumption | apply Drawn0.step))); rintro e w' ⟨rfl, ⟨nd, rfl⟩⟩; refine ⟨_, rfl, ?_⟩))
          go_ret2
          exact ⟨by first | rfl | (simp; done) | (simp [*]; done) | (refine congrArg _ ?_; rw [Bool.eq_iff_iff]; simp; done), by repeat (first | exact Drawn0.refl _ | apply Drawn0.step)⟩
        · rw [if_neg c6] at H
          exact absurd H (by simp)
      · rw [if_neg c5] at H
        have c5b0 : ((bt a0 0) == 46) = false := beq_eq_false_iff_ne.mpr c5
        have c5b1 : ((bt a0 0) != 46) = true := bne_iff_ne.mpr c5
        simp only [Option.some.injEq, Prod.mk.injEq] at H
        obtain ⟨rfl, rfl⟩ := H
        have p4 : 0 ≤ (0 : Int) := (by omega)
        have q4 : 0 < a0.size := (by have : (0 : Int) < (a0.size : Int) := of_decide_eq_true (by first | (with_reducible assumption) | assumption); omega)
        have hx4 : ∀ h : 0 < a0.size, ((a0[0]'h).toNat : Int) = bt a0 0 := bt_at a0 0
        clear p4
        have qi4 : (0 < (a0.size : Int)) = True := eq_true (of_decide_eq_true (by first | (with_reducible assumption) | assumption))
        replace q4 := eq_true q4
        go_enter Tryd.func69, Tryd.ntmps69
        go_wp2
        go_ret2
        exact ⟨by first | rfl | (simp; done) | (simp [*]; done) | (refine congrArg _ ?_; rw [Bool.eq_iff_iff]; simp; done), by repeat (first | exact Drawn0.refl _ | apply Drawn0.step)⟩
    · rw [if_neg c3] at H
      exact absurd H (by simp)

/-! ### epactref17_head: function 54 -/
def epactref17_head.j0 : Nat → ByteArray → Bool → Int → Int → Int → Int → Int → Option (Int × Int × Int × Int × Int × ByteArray)
  | 0, _, _, _, _, _, _, _ => none
  | k + 1, x0, x21, x300000, x300001, x300002, x300003, x300004 => if x21 = true then (if 1 ≤ (x0.size : Int) then ((epactref17_number.f k (x0.extract 1 x0.size) 1 2 12).bind fun bt300 => ((epactref17_dot.f k bt300.2).bind fun bt302 => ((epactref17_dot.f k bt302.2).bind fun bt304 => (some (0, bt300.1, bt302.1, bt304.1, x300004, bt304.2))))) else (none)) else (if (x0.size : Int) > 0 then (if 0 < (x0.size : Int) then (if (bt x0 0) = 74 then (if 1 ≤ (x0.size : Int) then ((epactref17_number.f k (x0.extract 1 x0.size) 1 3 365).bind fun bt306 => (some (1, bt306.1, x300002, x300003, x300004, bt306.2))) else (none)) else ((epactref17_number.f k x0 1 3 365).bind fun bt308 => (some (x300000, bt308.1, x300002, x300003, x300004, bt308.2)))) else (none)) else ((epactref17_number.f k x0 1 3 365).bind fun bt310 => (some (x300000, bt310.1, x300002, x300003, x300004, bt310.2))))
def epactref17_head.f (k : Nat) (a0 : ByteArray) : Option (Int × Int × Int × Int × Int × ByteArray) := if (a0.size : Int) > 0 then (if 0 < (a0.size : Int) then (epactref17_head.j0 k a0 ((bt a0 0) == 77) 2 0 0 0 7200) else (none)) else (epactref17_head.j0 k a0 false 2 0 0 0 7200)
theorem epactref17_head.mono_l : ∀ k, (∀ y0 y1 y2 y3 y4 y5 y6, LeO (epactref17_head.j0 k y0 y1 y2 y3 y4 y5 y6) (epactref17_head.j0 (k + 1) y0 y1 y2 y3 y4 y5 y6))
  | 0 => fun _ _ _ _ _ _ _ r h => by simp [epactref17_head.j0] at h
  | k + 1 => by
    have ih0 := epactref17_head.mono_l k
    · intro y0 y1 y2 y3 y4 y5 y6
      unfold epactref17_head.j0
      repeat' first
      | (with_reducible exact ih0 _ _ _ _ _ _ _)
      | (with_reducible exact epactref17_dot.mono _ _)
      | (with_reducible exact epactref17_number.mono _ _ _ _ _)
      | (with_reducible exact LeO.refl _)
      | (with_reducible exact LeO.none _)
      | (with_reducible refine LeO.ite ?_ ?_)
      | (with_reducible refine LeO.bind ?_ (fun _ => ?_))
      | exact ih0 _ _ _ _ _ _ _
      | exact epactref17_dot.mono _ _
      | exact epactref17_number.mono _ _ _ _ _
      | exact LeO.none _
      | refine LeO.ite ?_ ?_
      | refine LeO.bind ?_ (fun _ => ?_)
theorem epactref17_head.mono : ∀ a0 k, LeO (epactref17_head.f k a0) (epactref17_head.f (k + 1) a0) := by
  intro a0 k
  have ih0 := epactref17_head.mono_l k
  unfold epactref17_head.f
  repeat' first
      | (with_reducible exact ih0 _ _ _ _ _ _ _)
      | (with_reducible exact epactref17_dot.mono _ _)
      | (with_reducible exact epactref17_number.mono _ _ _ _ _)
      | (with_reducible exact LeO.refl _)
      | (with_reducible exact LeO.none _)
      | (with_reducible refine LeO.ite ?_ ?_)
      | (with_reducible refine LeO.bind ?_ (fun _ => ?_))
      | exact ih0 _ _ _ _ _ _ _
      | exact epactref17_dot.mono _ _
      | exact epactref17_number.mono _ _ _ _ _
      | exact LeO.none _
      | refine LeO.ite ?_ ?_
      | refine LeO.bind ?_ (fun _ => ?_)
set_option maxHeartbeats 8000000 in
set_option maxRecDepth 100000 in
theorem epactref17_head.calls (k : Nat) (a0 : ByteArray) (r1 : Int) (r2 : Int) (r3 : Int) (r4 : Int) (r5 : Int) (r6 : ByteArray) (w : World) (hG : GW w) (h : epactref17_head.f k a0 = some (r1, r2, r3, r4, r5, r6)) :
    Calls Tryd.prog 54 #[.string a0] w fun e w' => e = .returned (.tuple #[.agg #[.int .i64 r1, .int .i64 r2, .int .i64 r3, .int .i64 r4, .int .i64 r5], .string r6]) ∧ Below w.heap.size w w' := by
  have hu42 := Tryd.underlying42
  have HB := Aside0.mk (Below.refl w.heap.size w)
  have H : (if (a0.size : Int) > 0 then (if 0 < (a0.size : Int) then (epactref17_head.j0 k a0 ((bt a0 0) == 77) 2 0 0 0 7200) else (none)) else (epactref17_head.j0 k a0 false 2 0 0 0 7200)) = some (r1, r2, r3, r4, r5, r6) := h
  clear h
  have HC2 := Aside0.mk H
  clear H
  go_enter Tryd.func54, Tryd.ntmps54
  go_upto_region 2 with (first | ((with_reducible refine gate_dst (N := 2) rfl ?_); refine box_event ?hg (N := 2) ?hd (cs := #[.int .i64 0, .int .i64 0, .int .i64 0, .int .i64 0, .int .i64 0]) (t := 42) ?hr ?_; (case hd => rfl); (case hg => rfl); (case hr => first | (go_simp; done) | (go_simp; rfl)); intro gb298 hg w3 hbox hb; have n0_ := Aside0.mk (below_step (by repeat (first | (with_reducible first | exact HB.out | apply ba | apply bn | apply bd) | exact HB.out)) hb); have n1_ := Aside0.mk (hbox); have n2_ := Aside0.mk ((by rw [hg]; exact (below_size (by repeat (first | (with_reducible first | exact HB.out | apply ba | apply bn | apply bd) | exact HB.out))) : w.heap.size ≤ gb298)); have n3_ := Aside0.mk ((by rw [hg]; exact (below_size (by repeat (first | (with_reducible first | exact HB.out | apply ba | apply bn | apply bd) | exact HB.out))) : w.heap.size ≤ gb298)); clear HB; have HB := n0_; have BK298 := n1_; have GW298 := n2_; have GE298 := n3_; clear n0_ n1_ n2_ n3_; clear hb hbox hg) | ((with_reducible refine gate_dst (N := 4) rfl ?_); refine box_event ?hg (N := 4) ?hd (cs := #[.int .i64 0, .int .i64 0, .int .i64 0, .int .i64 0, .int .i64 0]) (t := 42) ?hr ?_; (case hd => rfl); (case hg => rfl); (case hr => first | (go_simp; done) | (go_simp; rfl)); intro gb299 hg w4 hbox hb; have n0_ := Aside0.mk (blk_below (g := gb298) (o := .cells #[.int .i64 0, .int .i64 0, .int .i64 0, .int .i64 0, .int .i64 0] 42 (0, 0)) (by (with_reducible repeat (first | refine blk_drewN ?_ _ | refine blk_drew ?_ | refine blk_alloc ?_ _)); exact BK298.out) hb); have n1_ := Aside0.mk (below_step (by repeat (first | (with_reducible first | exact HB.out | apply below_alloc | apply pw_below_drewN | apply below_drew1 | refine below_set ?_ GE298.out) | exact HB.out)) hb); have n2_ := Aside0.mk (hbox); have n3_ := Aside0.mk ((by rw [hg]; exact (below_size (by repeat (first | (with_reducible first | exact HB.out | apply below_alloc | apply pw_below_drewN | apply below_drew1 | refine below_set ?_ GE298.out) | exact HB.out))) : w.heap.size ≤ gb299)); have n4_ := Aside0.mk ((by rw [hg]; exact (below_size (by repeat (first | (with_reducible first | exact HB.out | apply below_alloc | apply pw_below_drewN | apply below_drew1 | refine below_set ?_ GE298.out) | exact HB.out))) : w.heap.size ≤ gb299)); have n5_ := Aside0.mk ((by rw [hg]; exact Nat.ne_of_lt (blk_lt (g := gb298) (o := .cells #[.int .i64 0, .int .i64 0, .int .i64 0, .int .i64 0, .int .i64 0] 42 (0, 0)) (by (with_reducible repeat (first | refine blk_drewN ?_ _ | refine blk_drew ?_ | refine blk_alloc ?_ _)); exact BK298.out)) : gb298 ≠ gb299)); have n6_ := Aside0.mk ((by rw [hg]; exact Nat.ne_of_gt (blk_lt (g := gb298) (o := .cells #[.int .i64 0, .int .i64 0, .int .i64 0, .int .i64 0, .int .i64 0] 42 (0, 0)) (by (with_reducible repeat (first | refine blk_drewN ?_ _ | refine blk_drew ?_ | refine blk_alloc ?_ _)); exact BK298.out)) : gb299 ≠ gb298)); clear BK298; clear HB; have BK298 := n0_; have HB := n1_; have BK299 := n2_; have GW299 := n3_; have GE299 := n4_; have NB298_299 := n5_; have NB299_298 := n6_; clear n0_ n1_ n2_ n3_ n4_ n5_ n6_; clear hb hbox hg; have hnb5 := NB299_298.out; have hnc5 := NB298_299.out; have hcz6_0 : w4.cell? ⟨gb299, 0, none⟩ = some (.int .i64 0) := (blk_cell BK299.out 0).trans rfl; have hcz6_1 : w4.cell? ⟨gb299, 1, none⟩ = some (.int .i64 0) := (blk_cell BK299.out 1).trans rfl; have hcz6_2 : w4.cell? ⟨gb299, 2, none⟩ = some (.int .i64 0) := (blk_cell BK299.out 2).trans rfl; have hcz6_3 : w4.cell? ⟨gb299, 3, none⟩ = some (.int .i64 0) := (blk_cell BK299.out 3).trans rfl; have hcz6_4 : w4.cell? ⟨gb299, 4, none⟩ = some (.int .i64 0) := (blk_cell BK299.out 4).trans rfl; have hfz6_0 := blk_frozen BK299.out 0; have hfz6_1 := blk_frozen BK299.out 1; have hfz6_2 := blk_frozen BK299.out 2; have hfz6_3 := blk_frozen BK299.out 3; have hfz6_4 := blk_frozen BK299.out 4))
  (try simp only [Act.put, List.setIfInBounds_toArray, List.set_cons_zero, List.set_cons_succ])
  go_cut [21] (fun v21 wc => ∃ (kq : Nat) (x21_1 : Bool), v21 = .bool x21_1 ∧ Aside0 (epactref17_head.j0 kq a0 x21_1 2 0 0 0 7200 = some (r1, r2, r3, r4, r5, r6)) ∧ Aside0 (kq ≤ k) ∧ Aside0 (wc.heap[gb298]? = some (.cells #[.int .i64 0, .int .i64 0, .int .i64 0, .int .i64 0, .int .i64 0] 42 (0, 0))) ∧ Aside0 (wc.heap[gb299]? = some (.cells #[.int .i64 2, .int .i64 0, .int .i64 0, .int .i64 0, .int .i64 7200] 42 (0, 0))) ∧ Aside0 (Below w.heap.size w wc))
  case first =>
    have H := HC2.out
    clear HC2
    by_cases c7 : (a0.size : Int) > 0
    · rw [if_pos c7] at H
      have c7b0 : decide (0 < (a0.size : Int)) = true := decide_eq_true c7
      have c7b1 : decide (0 < a0.size) = true := decide_eq_true (by omega)
      clear c7
      (first | rw [c7b0] | (simp only [i64_w, i32_w]; rw [c7b0]) | skip)
      by_cases c8 : 0 < (a0.size : Int)
      · rw [if_pos c8] at H
        have c8b0 : decide (0 < (a0.size : Int)) = true := decide_eq_true c8
        have c8b1 : decide (0 < a0.size) = true := decide_eq_true (by omega)
        clear c8
        have H' := Aside0.mk H
        clear H
        have p9 : 0 ≤ (0 : Int) := (by omega)
        have q9 : 0 < a0.size := (by have : (0 : Int) < (a0.size : Int) := of_decide_eq_true (by first | (with_reducible assumption) | assumption); omega)
        have hx9 : ∀ h : 0 < a0.size, ((a0[0]'h).toNat : Int) = bt a0 0 := bt_at a0 0
        clear p9
        have qi9 : (0 < (a0.size : Int)) = True := eq_true (of_decide_eq_true (by first | (with_reducible assumption) | assumption))
        replace q9 := eq_true q9
        go_wp2
        go_meet
        case rel => exact ⟨_, (((bt a0 0) == 77)), (by first | rfl | (simp; done) | (simp [*]; done) | (refine congrArg _ ?_; rw [Bool.eq_iff_iff]; simp; done)), H', ⟨by first | omega | exact Nat.le_refl _⟩, ⟨by (with_reducible repeat (first | refine blk_drewN ?_ _ | refine blk_drew ?_ | refine blk_alloc ?_ _)); refine blk_far ?_ NB298_299.out _; (with_reducible repeat (first | refine blk_drewN ?_ _ | refine blk_drew ?_ | refine blk_alloc ?_ _)); refine blk_far ?_ NB298_299.out _; (with_reducible repeat (first | refine blk_drewN ?_ _ | refine blk_drew ?_ | refine blk_alloc ?_ _)); refine blk_far ?_ NB298_299.out _; (with_reducible repeat (first | refine blk_drewN ?_ _ | refine blk_drew ?_ | refine blk_alloc ?_ _)); refine blk_far ?_ NB298_299.out _; (with_reducible repeat (first | refine blk_drewN ?_ _ | refine blk_drew ?_ | refine blk_alloc ?_ _)); refine blk_far ?_ NB298_299.out _; (with_reducible repeat (first | refine blk_drewN ?_ _ | refine blk_drew ?_ | refine blk_alloc ?_ _)); exact BK298.out⟩, ⟨by (with_reducible repeat (first | refine blk_drewN ?_ _ | refine blk_drew ?_ | refine blk_alloc ?_ _)); refine blk_put (cs := #[.int .i64 2, .int .i64 0, .int .i64 0, .int .i64 0, .int .i64 0]) ?_ 4 _ rfl; (with_reducible repeat (first | refine blk_drewN ?_ _ | refine blk_drew ?_ | refine blk_alloc ?_ _)); refine blk_put (cs := #[.int .i64 2, .int .i64 0, .int .i64 0, .int .i64 0, .int .i64 0]) ?_ 3 _ rfl; (with_reducible repeat (first | refine blk_drewN ?_ _ | refine blk_drew ?_ | refine blk_alloc ?_ _)); refine blk_put (cs := #[.int .i64 2, .int .i64 0, .int .i64 0, .int .i64 0, .int .i64 0]) ?_ 2 _ rfl; (with_reducible repeat (first | refine blk_drewN ?_ _ | refine blk_drew ?_ | refine blk_alloc ?_ _)); refine blk_put (cs := #[.int .i64 2, .int .i64 0, .int .i64 0, .int .i64 0, .int .i64 0]) ?_ 1 _ rfl; (with_reducible repeat (first | refine blk_drewN ?_ _ | refine blk_drew ?_ | refine blk_alloc ?_ _)); refine blk_put (cs := #[.int .i64 0, .int .i64 0, .int .i64 0, .int .i64 0, .int .i64 0]) ?_ 0 _ rfl; (with_reducible repeat (first | refine blk_drewN ?_ _ | refine blk_drew ?_ | refine blk_alloc ?_ _)); exact BK299.out⟩, ⟨by repeat (first | (with_reducible first | exact HB.out | apply below_alloc | apply pw_below_drewN | apply below_drew1 | refine below_set ?_ GE298.out | refine below_set ?_ GE299.out) | exact HB.out)⟩⟩
      · rw [if_neg c8] at H
        exact absurd H (by simp)
    · rw [if_neg c7] at H
      have c7b0 : decide (0 < (a0.size : Int)) = false := decide_eq_false c7
      have c7b1 : decide (0 < a0.size) = false := decide_eq_false (by omega)
      clear c7
      (first | rw [c7b0] | (simp only [i64_w, i32_w]; rw [c7b0]) | skip)
      have H' := Aside0.mk H
      clear H
      go_wp2
      go_meet
      case rel => exact ⟨_, (false), (by first | rfl | (simp; done) | (simp [*]; done) | (refine congrArg _ ?_; rw [Bool.eq_iff_iff]; simp; done)), H', ⟨by first | omega | exact Nat.le_refl _⟩, ⟨by (with_reducible repeat (first | refine blk_drewN ?_ _ | refine blk_drew ?_ | refine blk_alloc ?_ _)); refine blk_far ?_ NB298_299.out _; (with_reducible repeat (first | refine blk_drewN ?_ _ | refine blk_drew ?_ | refine blk_alloc ?_ _)); refine blk_far ?_ NB298_299.out _; (with_reducible repeat (first | refine blk_drewN ?_ _ | refine blk_drew ?_ | refine blk_alloc ?_ _)); refine blk_far ?_ NB298_299.out _; (with_reducible repeat (first | refine blk_drewN ?_ _ | refine blk_drew ?_ | refine blk_alloc ?_ _)); refine blk_far ?_ NB298_299.out _; (with_reducible repeat (first | refine blk_drewN ?_ _ | refine blk_drew ?_ | refine blk_alloc ?_ _)); refine blk_far ?_ NB298_299.out _; (with_reducible repeat (first | refine blk_drewN ?_ _ | refine blk_drew ?_ | refine blk_alloc ?_ _)); exact BK298.out⟩, ⟨by (with_reducible repeat (first | refine blk_drewN ?_ _ | refine blk_drew ?_ | refine blk_alloc ?_ _)); refine blk_put (cs := #[.int .i64 2, .int .i64 0, .int .i64 0, .int .i64 0, .int .i64 0]) ?_ 4 _ rfl; (with_reducible repeat (first | refine blk_drewN ?_ _ | refine blk_drew ?_ | refine blk_alloc ?_ _)); refine blk_put (cs := #[.int .i64 2, .int .i64 0, .int .i64 0, .int .i64 0, .int .i64 0]) ?_ 3 _ rfl; (with_reducible repeat (first | refine blk_drewN ?_ _ | refine blk_drew ?_ | refine blk_alloc ?_ _)); refine blk_put (cs := #[.int .i64 2, .int .i64 0, .int .i64 0, .int .i64 0, .int .i64 0]) ?_ 2 _ rfl; (with_reducible repeat (first | refine blk_drewN ?_ _ | refine blk_drew ?_ | refine blk_alloc ?_ _)); refine blk_put (cs := #[.int .i64 2, .int .i64 0, .int .i64 0, .int .i64 0, .int .i64 0]) ?_ 1 _ rfl; (with_reducible repeat (first | refine blk_drewN ?_ _ | refine blk_drew ?_ | refine blk_alloc ?_ _)); refine blk_put (cs := #[.int .i64 0, .int .i64 0, .int .i64 0, .int .i64 0, .int .i64 0]) ?_ 0 _ rfl; (with_reducible repeat (first | refine blk_drewN ?_ _ | refine blk_drew ?_ | refine blk_alloc ?_ _)); exact BK299.out⟩, ⟨by repeat (first | (with_reducible first | exact HB.out | apply below_alloc | apply pw_below_drewN | apply below_drew1 | refine below_set ?_ GE298.out | refine below_set ?_ GE299.out) | exact HB.out)⟩⟩
  case rest =>
    clear HC2
    try clear p2
    try clear c5
    try clear c7
    try clear c7b0
    try clear c7b1
    try clear c8
    try clear c8b0
    try clear c8b1
    try clear p9
    try clear q9
    try clear hx9
    try clear qi9
    try clear hcz6_0
    try clear hcz6_1
    try clear hcz6_2
    try clear hcz6_3
    try clear hcz6_4
    try clear hfz6_0
    try clear hfz6_1
    try clear hfz6_2
    try clear hfz6_3
    try clear hfz6_4
    try clear p9
    try clear q9
    obtain ⟨kq, x21_1, rfl, HA, HJ1, BK298, BK299, HB⟩ := hcut
    cases kq with
    | zero => exact absurd HA.out (by simp [epactref17_head.j0])
    | succ kj1 =>
      have H := HA.out
      clear HA
      simp only [epactref17_head.j0] at H
      by_cases c10 : x21_1 = true
      · subst c10
        have H1 : (if 1 ≤ (a0.size : Int) then ((epactref17_number.f kj1 (a0.extract 1 a0.size) 1 2 12).bind fun bt300 => ((epactref17_dot.f kj1 bt300.2).bind fun bt302 => ((epactref17_dot.f kj1 bt302.2).bind fun bt304 => (some (0, bt300.1, bt302.1, bt304.1, 7200, bt304.2))))) else (none)) = some (r1, r2, r3, r4, r5, r6) := by rw [if_pos rfl] at H; exact H
        clear H
        have H := H1
        clear H1
        by_cases c11 : 1 ≤ (a0.size : Int)
        · rw [if_pos c11] at H
          have c11b0 := eq_true c11
          have c11b1 : decide (1 ≤ (a0.size : Int)) = true := decide_eq_true c11
          clear c11
          replace H := Option.bind_eq_some_iff.mp H
          obtain ⟨⟨t300, t301⟩, A120, H⟩ := H
          replace H : ((epactref17_dot.f kj1 t301).bind fun bt302 => ((epactref17_dot.f kj1 bt302.2).bind fun bt304 => (some (0, t300, bt302.1, bt304.1, 7200, bt304.2)))) = some (r1, r2, r3, r4, r5, r6) := H
          have A12 := Aside0.mk A120
          clear A120
          replace H := Option.bind_eq_some_iff.mp H
          obtain ⟨⟨t302, t303⟩, A130, H⟩ := H
          replace H : ((epactref17_dot.f kj1 t303).bind fun bt304 => (some (0, t300, t302, bt304.1, 7200, bt304.2))) = some (r1, r2, r3, r4, r5, r6) := H
          have A13 := Aside0.mk A130
          clear A130
          replace H := Option.bind_eq_some_iff.mp H
          obtain ⟨⟨t304, t305⟩, A140, H⟩ := H
          replace H : (some (0, t300, t302, t304, 7200, t305)) = some (r1, r2, r3, r4, r5, r6) := H
          have A14 := Aside0.mk A140
          clear A140
          simp only [Option.some.injEq, Prod.mk.injEq] at H
          obtain ⟨rfl, rfl, rfl, rfl, rfl, rfl⟩ := H
          have hnb15 := NB299_298.out
          have hnc15 := NB298_299.out
          have hcz16_0 : wc.cell? ⟨gb299, 0, none⟩ = some (.int .i64 2) := (blk_cell BK299.out 0).trans rfl
          have hcz16_1 : wc.cell? ⟨gb299, 1, none⟩ = some (.int .i64 0) := (blk_cell BK299.out 1).trans rfl
          have hcz16_2 : wc.cell? ⟨gb299, 2, none⟩ = some (.int .i64 0) := (blk_cell BK299.out 2).trans rfl
          have hcz16_3 : wc.cell? ⟨gb299, 3, none⟩ = some (.int .i64 0) := (blk_cell BK299.out 3).trans rfl
          have hcz16_4 : wc.cell? ⟨gb299, 4, none⟩ = some (.int .i64 7200) := (blk_cell BK299.out 4).trans rfl
          have hfz16_0 := blk_frozen BK299.out 0
          have hfz16_1 := blk_frozen BK299.out 1
          have hfz16_2 := blk_frozen BK299.out 2
          have hfz16_3 := blk_frozen BK299.out 3
          have hfz16_4 := blk_frozen BK299.out 4
          go_wp2_with (first | ((with_reducible refine gate_callee (f := 68) rfl ?_); refine goesL_ (some 26) rfl rfl Tryd.func68 (by kernel_rfl) rfl #[.string (a0.extract 1 a0.size), .int .i64 1, .int .i64 2, .int .i64 12] rfl (by (try simp only [List.map_toArray, List.map_cons, List.map_nil]); first | done | rfl | (simp only [List.length_drop, List.length_take]; rfl)) ?_; (with_reducible refine (epactref17_number.calls kj1 (a0.extract 1 a0.size) 1 2 12 t300 t301 _ ?side717 A12.out).mono ?_); (case side717 => refine hG.below ?_; repeat (first | (with_reducible first | exact HB.out | apply below_alloc | apply pw_below_drewN | apply below_drew1 | refine below_set ?_ GE298.out | refine below_set ?_ GE299.out) | exact HB.out)); rintro e w' ⟨rfl, ⟨nd, rfl⟩⟩; refine ⟨_, rfl, ?_⟩) | ((with_reducible refine gate_callee (f := 69) rfl ?_); refine goesL_ (some 31) rfl rfl Tryd.func69 (by kernel_rfl) rfl #[.string t301] rfl (by (try simp only [List.map_toArray, List.map_cons, List.map_nil]); first | done | rfl | (simp only [List.length_drop, List.length_take]; rfl)) ?_; (with_reducible refine (epactref17_dot.calls kj1 t301 t302 t303 _ ?side718 A13.out).mono ?_); (case side718 => refine hG.below ?_; repeat (first | (with_reducible first | exact HB.out | apply below_alloc | apply pw_below_drewN | apply below_drew1 | refine below_set ?_ GE298.out | refine below_set ?_ GE299.out) | exact HB.out)); rintro e w' ⟨rfl, ⟨nd, rfl⟩⟩; refine ⟨_, rfl, ?_⟩) | ((with_reducible refine gate_callee (f := 69) rfl ?_); refine goesL_ (some 36) rfl rfl Tryd.func69 (by kernel_rfl) rfl #[.string t303] rfl (by (try simp only [List.map_toArray, List.map_cons, List.map_nil]); first | done | rfl | (simp only [List.length_drop, List.length_take]; rfl)) ?_; (with_reducible refine (epactref17_dot.calls kj1 t303 t304 t305 _ ?side719 A14.out).mono ?_); (case side719 => refine hG.below ?_; repeat (first | (with_reducible first | exact HB.out | apply below_alloc | apply pw_below_drewN | apply below_drew1 | refine below_set ?_ GE298.out | refine below_set ?_ GE299.out) | exact HB.out)); rintro e w' ⟨rfl, ⟨nd, rfl⟩⟩; refine ⟨_, rfl, ?_⟩; have hcz20_0 : wc.cell? ⟨gb298, 0, none⟩ = some (.int .i64 0) := (blk_cell BK298.out 0).trans rfl; have hcz20_1 : wc.cell? ⟨gb298, 1, none⟩ = some (.int .i64 0) := (blk_cell BK298.out 1).trans rfl; have hcz20_2 : wc.cell? ⟨gb298, 2, none⟩ = some (.int .i64 0) := (blk_cell BK298.out 2).trans rfl; have hcz20_3 : wc.cell? ⟨gb298, 3, none⟩ = some (.int .i64 0) := (blk_cell BK298.out 3).trans rfl; have hcz20_4 : wc.cell? ⟨gb298, 4, none⟩ = some (.int .i64 0) := (blk_cell BK298.out 4).trans rfl; have hfz20_0 := blk_frozen BK298.out 0; have hfz20_1 := blk_frozen BK298.out 1; have hfz20_2 := blk_frozen BK298.out 2; have hfz20_3 := blk_frozen BK298.out 3; have hfz20_4 := blk_frozen BK298.out 4))
          refine bodyPost_ret (results_ct rfl _ _ gb298 42 #[.int .i64 0, .int .i64 t300, .int .i64 t302, .int .i64 t304, .int .i64 7200] (0, 0) _ rfl (by (with_reducible repeat (first | refine blk_drewN ?_ _ | refine blk_drew ?_ | refine blk_alloc ?_ _)); refine blk_put (cs := #[.int .i64 0, .int .i64 t300, .int .i64 t302, .int .i64 t304, .int .i64 0]) ?_ 4 _ rfl; (with_reducible repeat (first | refine blk_drewN ?_ _ | refine blk_drew ?_ | refine blk_alloc ?_ _)); refine blk_put (cs := #[.int .i64 0, .int .i64 t300, .int .i64 t302, .int .i64 0, .int .i64 0]) ?_ 3 _ rfl; (with_reducible repeat (first | refine blk_drewN ?_ _ | refine blk_drew ?_ | refine blk_alloc ?_ _)); refine blk_put (cs := #[.int .i64 0, .int .i64 t300, .int .i64 0, .int .i64 0, .int .i64 0]) ?_ 2 _ rfl; (with_reducible repeat (first | refine blk_drewN ?_ _ | refine blk_drew ?_ | refine blk_alloc ?_ _)); refine blk_put (cs := #[.int .i64 0, .int .i64 0, .int .i64 0, .int .i64 0, .int .i64 0]) ?_ 1 _ rfl; (with_reducible repeat (first | refine blk_drewN ?_ _ | refine blk_drew ?_ | refine blk_alloc ?_ _)); refine blk_put (cs := #[.int .i64 0, .int .i64 0, .int .i64 0, .int .i64 0, .int .i64 0]) ?_ 0 _ rfl; (with_reducible repeat (first | refine blk_drewN ?_ _ | refine blk_drew ?_ | refine blk_alloc ?_ _)); refine blk_far ?_ NB298_299.out _; (with_reducible repeat (first | refine blk_drewN ?_ _ | refine blk_drew ?_ | refine blk_alloc ?_ _)); refine blk_far ?_ NB298_299.out _; (with_reducible repeat (first | refine blk_drewN ?_ _ | refine blk_drew ?_ | refine blk_alloc ?_ _)); refine blk_far ?_ NB298_299.out _; (with_reducible repeat (first | refine blk_drewN ?_ _ | refine blk_drew ?_ | refine blk_alloc ?_ _)); refine blk_far ?_ NB298_299.out _; (with_reducible repeat (first | refine blk_drewN ?_ _ | refine blk_drew ?_ | refine blk_alloc ?_ _)); exact BK298.out) Tryd.underlying42 rfl (by kernel_rfl)) rfl ?_
          exact ⟨by first | rfl | (simp [errW_none, errW_some] <;> rfl) | (simp [*, errW_none, errW_some] <;> rfl), by repeat (first | (with_reducible first | exact HB.out | apply below_alloc | apply pw_below_drewN | apply below_drew1 | refine below_set ?_ GE298.out | refine below_set ?_ GE299.out) | exact HB.out)⟩
        · rw [if_neg c11] at H
          exact absurd H (by simp)
      · replace c10 := Bool.eq_false_iff.mpr c10
        subst c10
        have H1 : (if (a0.size : Int) > 0 then (if 0 < (a0.size : Int) then (if (bt a0 0) = 74 then (if 1 ≤ (a0.size : Int) then ((epactref17_number.f kj1 (a0.extract 1 a0.size) 1 3 365).bind fun bt306 => (some (1, bt306.1, 0, 0, 7200, bt306.2))) else (none)) else ((epactref17_number.f kj1 a0 1 3 365).bind fun bt308 => (some (2, bt308.1, 0, 0, 7200, bt308.2)))) else (none)) else ((epactref17_number.f kj1 a0 1 3 365).bind fun bt310 => (some (2, bt310.1, 0, 0, 7200, bt310.2)))) = some (r1, r2, r3, r4, r5, r6) := by rw [if_neg (show ¬ (false = true) by decide)] at H; exact H
        clear H
        have H := H1
        clear H1
        by_cases c21 : (a0.size : Int) > 0
        · rw [if_pos c21] at H
          have c21b0 : decide (0 < (a0.size : Int)) = true := decide_eq_true c21
          have c21b1 : decide (0 < a0.size) = true := decide_eq_true (by omega)
          clear c21
          by_cases c22 : 0 < (a0.size : Int)
          · rw [if_pos c22] at H
            have c22b0 : decide (0 < (a0.size : Int)) = true := decide_eq_true c22
            have c22b1 : decide (0 < a0.size) = true := decide_eq_true (by omega)
            clear c22
            by_cases c24 : (bt a0 0) = 74
            · rw [if_pos c24] at H
              have c24b0 : ((bt a0 0) == 74) = true := beq_iff_eq.mpr c24
              have c24b1 : ((bt a0 0) != 74) = false := bne_eq_false_iff_eq.mpr c24
              clear c24
              by_cases c25 : 1 ≤ (a0.size : Int)
              · rw [if_pos c25] at H
                have c25b0 := eq_true c25
                have c25b1 : decide (1 ≤ (a0.size : Int)) = true := decide_eq_true c25
                clear c25
                replace H := Option.bind_eq_some_iff.mp H
                obtain ⟨⟨t306, t307⟩, A260, H⟩ := H
                replace H : (some (1, t306, 0, 0, 7200, t307)) = some (r1, r2, r3, r4, r5, r6) := H
                have A26 := Aside0.mk A260
                clear A260
                simp only [Option.some.injEq, Prod.mk.injEq] at H
                obtain ⟨rfl, rfl, rfl, rfl, rfl, rfl⟩ := H
                have p23 : 0 ≤ (0 : Int) := (by omega)
                have q23 : 0 < a0.size := (by have : (0 : Int) < (a0.size : Int) := of_decide_eq_true (by first | (with_reducible assumption) | assumption); omega)
                have hx23 : ∀ h : 0 < a0.size, ((a0[0]'h).toNat : Int) = bt a0 0 := bt_at a0 0
                clear p23
                have qi23 : (0 < (a0.size : Int)) = True := eq_true (of_decide_eq_true (by first | (with_reducible assumption) | assumption))
                replace q23 := eq_true q23
                have hnb27 := NB299_298.out
                have hnc27 := NB298_299.out
                have hcz28_0 : wc.cell? ⟨gb299, 0, none⟩ = some (.int .i64 2) := (blk_cell BK299.out 0).trans rfl
                have hcz28_1 : wc.cell? ⟨gb299, 1, none⟩ = some (.int .i64 0) := (blk_cell BK299.out 1).trans rfl
                have hcz28_2 : wc.cell? ⟨gb299, 2, none⟩ = some (.int .i64 0) := (blk_cell BK299.out 2).trans rfl
                have hcz28_3 : wc.cell? ⟨gb299, 3, none⟩ = some (.int .i64 0) := (blk_cell BK299.out 3).trans rfl
                have hcz28_4 : wc.cell? ⟨gb299, 4, none⟩ = some (.int .i64 7200) := (blk_cell BK299.out 4).trans rfl
                have hfz28_0 := blk_frozen BK299.out 0
                have hfz28_1 := blk_frozen BK299.out 1
                have hfz28_2 := blk_frozen BK299.out 2
                have hfz28_3 := blk_frozen BK299.out 3
                have hfz28_4 := blk_frozen BK299.out 4
                go_wp2_with (first | ((with_reducible refine gate_callee (f := 68) rfl ?_); refine goesL_ (some 60) rfl rfl Tryd.func68 (by kernel_rfl) rfl #[.string (a0.extract 1 a0.size), .int .i64 1, .int .i64 3, .int .i64 365] rfl (by (try simp only [List.map_toArray, List.map_cons, List.map_nil]); first | done | rfl | (simp only [List.length_drop, List.length_take]; rfl)) ?_; (with_reducible refine (epactref17_number.calls kj1 (a0.extract 1 a0.size) 1 3 365 t306 t307 _ ?side729 A26.out).mono ?_); (case side729 => refine hG.below ?_; repeat (first | (with_reducible first | exact HB.out | apply below_alloc | apply pw_below_drewN | apply below_drew1 | refine below_set ?_ GE298.out | refine below_set ?_ GE299.out) | exact HB.out)); rintro e w' ⟨rfl, ⟨nd, rfl⟩⟩; refine ⟨_, rfl, ?_⟩; have hcz30_0 : wc.cell? ⟨gb298, 0, none⟩ = some (.int .i64 0) := (blk_cell BK298.out 0).trans rfl; have hcz30_1 : wc.cell? ⟨gb298, 1, none⟩ = some (.int .i64 0) := (blk_cell BK298.out 1).trans rfl; have hcz30_2 : wc.cell? ⟨gb298, 2, none⟩ = some (.int .i64 0) := (blk_cell BK298.out 2).trans rfl; have hcz30_3 : wc.cell? ⟨gb298, 3, none⟩ = some (.int .i64 0) := (blk_cell BK298.out 3).trans rfl; have hcz30_4 : wc.cell? ⟨gb298, 4, none⟩ = some (.int .i64 0) := (blk_cell BK298.out 4).trans rfl; have hfz30_0 := blk_frozen BK298.out 0; have hfz30_1 := blk_frozen BK298.out 1; have hfz30_2 := blk_frozen BK298.out 2; have hfz30_3 := blk_frozen BK298.out 3; have hfz30_4 := blk_frozen BK298.out 4))
                refine bodyPost_ret (results_ct rfl _ _ gb298 42 #[.int .i64 1, .int .i64 t306, .int .i64 0, .int .i64 0, .int .i64 7200] (0, 0) _ rfl (by (with_reducible repeat (first | refine blk_drewN ?_ _ | refine blk_drew ?_ | refine blk_alloc ?_ _)); refine blk_put (cs := #[.int .i64 1, .int .i64 t306, .int .i64 0, .int .i64 0, .int .i64 0]) ?_ 4 _ rfl; (with_reducible repeat (first | refine blk_drewN ?_ _ | refine blk_drew ?_ | refine blk_alloc ?_ _)); refine blk_put (cs := #[.int .i64 1, .int .i64 t306, .int .i64 0, .int .i64 0, .int .i64 0]) ?_ 3 _ rfl; (with_reducible repeat (first | refine blk_drewN ?_ _ | refine blk_drew ?_ | refine blk_alloc ?_ _)); refine blk_put (cs := #[.int .i64 1, .int .i64 t306, .int .i64 0, .int .i64 0, .int .i64 0]) ?_ 2 _ rfl; (with_reducible repeat (first | refine blk_drewN ?_ _ | refine blk_drew ?_ | refine blk_alloc ?_ _)); refine blk_put (cs := #[.int .i64 1, .int .i64 0, .int .i64 0, .int .i64 0, .int .i64 0]) ?_ 1 _ rfl; (with_reducible repeat (first | refine blk_drewN ?_ _ | refine blk_drew ?_ | refine blk_alloc ?_ _)); refine blk_put (cs := #[.int .i64 0, .int .i64 0, .int .i64 0, .int .i64 0, .int .i64 0]) ?_ 0 _ rfl; (with_reducible repeat (first | refine blk_drewN ?_ _ | refine blk_drew ?_ | refine blk_alloc ?_ _)); refine blk_far ?_ NB298_299.out _; (with_reducible repeat (first | refine blk_drewN ?_ _ | refine blk_drew ?_ | refine blk_alloc ?_ _)); refine blk_far ?_ NB298_299.out _; (with_reducible repeat (first | refine blk_drewN ?_ _ | refine blk_drew ?_ | refine blk_alloc ?_ _)); exact BK298.out) Tryd.underlying42 rfl (by kernel_rfl)) rfl ?_
                exact ⟨by first | rfl | (simp [errW_none, errW_some] <;> rfl) | (simp [*, errW_none, errW_some] <;> rfl), by repeat (first | (with_reducible first | exact HB.out | apply below_alloc | apply pw_below_drewN | apply below_drew1 | refine below_set ?_ GE298.out | refine below_set ?_ GE299.out) | exact HB.out)⟩
              · rw [if_neg c25] at H
                exact absurd H (by simp)
            · rw [if_neg c24] at H
              have c24b0 : ((bt a0 0) == 74) = false := beq_eq_false_iff_ne.mpr c24
              have c24b1 : ((bt a0 0) != 74) = true := bne_iff_ne.mpr c24
              replace H := Option.bind_eq_some_iff.mp H
              obtain ⟨⟨t308, t309⟩, A310, H⟩ := H
              replace H : (some (2, t308, 0, 0, 7200, t309)) = some (r1, r2, r3, r4, r5, r6) := H
              have A31 := Aside0.mk A310
              clear A310
              simp only [Option.some.injEq, Prod.mk.injEq] at H
              obtain ⟨rfl, rfl, rfl, rfl, rfl, rfl⟩ := H
              have p23 : 0 ≤ (0 : Int) := (by omega)
              have q23 : 0 < a0.size := (by have : (0 : Int) < (a0.size : Int) := of_decide_eq_true (by first | (with_reducible assumption) | assumption); omega)
              have hx23 : ∀ h : 0 < a0.size, ((a0[0]'h).toNat : Int) = bt a0 0 := bt_at a0 0
              clear p23
              have qi23 : (0 < (a0.size : Int)) = True := eq_true (of_decide_eq_true (by first | (with_reducible assumption) | assumption))
              replace q23 := eq_true q23
              go_wp2_with (first | ((with_reducible refine gate_callee (f := 68) rfl ?_); refine goesL_ (some 60) rfl rfl Tryd.func68 (by kernel_rfl) rfl #[.string a0, .int .i64 1, .int .i64 3, .int .i64 365] rfl (by (try simp only [List.map_toArray, List.map_cons, List.map_nil]); first | done | rfl | (simp only [List.length_drop, List.length_take]; rfl)) ?_; (with_reducible refine (epactref17_number.calls kj1 a0 1 3 365 t308 t309 _ ?side732 A31.out).mono ?_); (case side732 => refine hG.below ?_; repeat (first | (with_reducible first | exact HB.out | apply below_alloc | apply pw_below_drewN | apply below_drew1 | refine below_set ?_ GE298.out | refine below_set ?_ GE299.out) | exact HB.out)); rintro e w' ⟨rfl, ⟨nd, rfl⟩⟩; refine ⟨_, rfl, ?_⟩; (try (rw [drewN_self wc]; generalize hq_ : World.drewN wc _ = wc; have n0_ : Aside0 (wc.heap[gb298]? = some (.cells #[.int .i64 0, .int .i64 0, .int .i64 0, .int .i64 0, .int .i64 0] 42 (0, 0))) := ⟨by rw [← hq_]; exact (by (with_reducible repeat (first | refine blk_drewN ?_ _ | refine blk_drew ?_ | refine blk_alloc ?_ _)); exact BK298.out)⟩; have n1_ : Aside0 (wc.heap[gb299]? = some (.cells #[.int .i64 2, .int .i64 0, .int .i64 0, .int .i64 0, .int .i64 7200] 42 (0, 0))) := ⟨by rw [← hq_]; exact (by (with_reducible repeat (first | refine blk_drewN ?_ _ | refine blk_drew ?_ | refine blk_alloc ?_ _)); exact BK299.out)⟩; have n2_ : Aside0 (Below w.heap.size w wc) := ⟨by rw [← hq_]; exact (by repeat (first | (with_reducible first | exact HB.out | apply below_alloc | apply pw_below_drewN | apply below_drew1 | refine below_set ?_ GE298.out | refine below_set ?_ GE299.out) | exact HB.out))⟩; clear BK298 BK299 HB hq_; have BK298 := n0_; have BK299 := n1_; have HB := n2_; clear n0_ n1_ n2_)); have hnb33 := NB299_298.out; have hnc33 := NB298_299.out; have hcz34_0 : wc.cell? ⟨gb299, 0, none⟩ = some (.int .i64 2) := (blk_cell BK299.out 0).trans rfl; have hcz34_1 : wc.cell? ⟨gb299, 1, none⟩ = some (.int .i64 0) := (blk_cell BK299.out 1).trans rfl; have hcz34_2 : wc.cell? ⟨gb299, 2, none⟩ = some (.int .i64 0) := (blk_cell BK299.out 2).trans rfl; have hcz34_3 : wc.cell? ⟨gb299, 3, none⟩ = some (.int .i64 0) := (blk_cell BK299.out 3).trans rfl; have hcz34_4 : wc.cell? ⟨gb299, 4, none⟩ = some (.int .i64 7200) := (blk_cell BK299.out 4).trans rfl; have hfz34_0 := blk_frozen BK299.out 0; have hfz34_1 := blk_frozen BK299.out 1; have hfz34_2 := blk_frozen BK299.out 2; have hfz34_3 := blk_frozen BK299.out 3; have hfz34_4 := blk_frozen BK299.out 4; have hcz35_0 : wc.cell? ⟨gb298, 0, none⟩ = some (.int .i64 0) := (blk_cell BK298.out 0).trans rfl; have hcz35_1 : wc.cell? ⟨gb298, 1, none⟩ = some (.int .i64 0) := (blk_cell BK298.out 1).trans rfl; have hcz35_2 : wc.cell? ⟨gb298, 2, none⟩ = some (.int .i64 0) := (blk_cell BK298.out 2).trans rfl; have hcz35_3 : wc.cell? ⟨gb298, 3, none⟩ = some (.int .i64 0) := (blk_cell BK298.out 3).trans rfl; have hcz35_4 : wc.cell? ⟨gb298, 4, none⟩ = some (.int .i64 0) := (blk_cell BK298.out 4).trans rfl; have hfz35_0 := blk_frozen BK298.out 0; have hfz35_1 := blk_frozen BK298.out 1; have hfz35_2 := blk_frozen BK298.out 2; have hfz35_3 := blk_frozen BK298.out 3; have hfz35_4 := blk_frozen BK298.out 4))
              refine bodyPost_ret (results_ct rfl _ _ gb298 42 #[.int .i64 2, .int .i64 t308, .int .i64 0, .int .i64 0, .int .i64 7200] (0, 0) _ rfl (by (with_reducible repeat (first | refine blk_drewN ?_ _ | refine blk_drew ?_ | refine blk_alloc ?_ _)); refine blk_put (cs := #[.int .i64 2, .int .i64 t308, .int .i64 0, .int .i64 0, .int .i64 0]) ?_ 4 _ rfl; (with_reducible repeat (first | refine blk_drewN ?_ _ | refine blk_drew ?_ | refine blk_alloc ?_ _)); refine blk_put (cs := #[.int .i64 2, .int .i64 t308, .int .i64 0, .int .i64 0, .int .i64 0]) ?_ 3 _ rfl; (with_reducible repeat (first | refine blk_drewN ?_ _ | refine blk_drew ?_ | refine blk_alloc ?_ _)); refine blk_put (cs := #[.int .i64 2, .int .i64 t308, .int .i64 0, .int .i64 0, .int .i64 0]) ?_ 2 _ rfl; (with_reducible repeat (first | refine blk_drewN ?_ _ | refine blk_drew ?_ | refine blk_alloc ?_ _)); refine blk_put (cs := #[.int .i64 2, .int .i64 0, .int .i64 0, .int .i64 0, .int .i64 0]) ?_ 1 _ rfl; (with_reducible repeat (first | refine blk_drewN ?_ _ | refine blk_drew ?_ | refine blk_alloc ?_ _)); refine blk_put (cs := #[.int .i64 0, .int .i64 0, .int .i64 0, .int .i64 0, .int .i64 0]) ?_ 0 _ rfl; (with_reducible repeat (first | refine blk_drewN ?_ _ | refine blk_drew ?_ | refine blk_alloc ?_ _)); refine blk_far ?_ NB298_299.out _; (with_reducible repeat (first | refine blk_drewN ?_ _ | refine blk_drew ?_ | refine blk_alloc ?_ _)); exact BK298.out) Tryd.underlying42 rfl (by kernel_rfl)) rfl ?_
              exact ⟨by first | rfl | (simp [errW_none, errW_some] <;> rfl) | (simp [*, errW_none, errW_some] <;> rfl), by repeat (first | (with_reducible first | exact HB.out | apply below_alloc | apply pw_below_drewN | apply below_drew1 | refine below_set ?_ GE298.out | refine below_set ?_ GE299.out) | exact HB.out)⟩
          · rw [if_neg c22] at H
            exact absurd H (by simp)
        · rw [if_neg c21] at H
          have c21b0 : decide (0 < (a0.size : Int)) = false := decide_eq_false c21
          have c21b1 : decide (0 < a0.size) = false := decide_eq_false (by omega)
          clear c21
          replace H := Option.bind_eq_some_iff.mp H
          obtain ⟨⟨t310, t311⟩, A360, H⟩ := H
          replace H : (some (2, t310, 0, 0, 7200, t311)) = some (r1, r2, r3, r4, r5, r6) := H
          have A36 := Aside0.mk A360
          clear A360
          simp only [Option.some.injEq, Prod.mk.injEq] at H
          obtain ⟨rfl, rfl, rfl, rfl, rfl, rfl⟩ := H
          go_wp2_with (first | ((with_reducible refine gate_callee (f := 68) rfl ?_); refine goesL_ (some 60) rfl rfl Tryd.func68 (by kernel_rfl) rfl #[.string a0, .int .i64 1, .int .i64 3, .int .i64 365] rfl (by (try simp only [List.map_toArray, List.map_cons, List.map_nil]); first | done | rfl | (simp only [List.length_drop, List.length_take]; rfl)) ?_; (with_reducible refine (epactref17_number.calls kj1 a0 1 3 365 t310 t311 _ ?side737 A36.out).mono ?_); (case side737 => refine hG.below ?_; repeat (first | (with_reducible first | exact HB.out | apply below_alloc | apply pw_below_drewN | apply below_drew1 | refine below_set ?_ GE298.out | refine below_set ?_ GE299.out) | exact HB.out)); rintro e w' ⟨rfl, ⟨nd, rfl⟩⟩; refine ⟨_, rfl, ?_⟩; (try (rw [drewN_self wc]; generalize hq_ : World.drewN wc _ = wc; have n0_ : Aside0 (wc.heap[gb298]? = some (.cells #[.int .i64 0, .int .i64 0, .int .i64 0, .int .i64 0, .int .i64 0] 42 (0, 0))) := ⟨by rw [← hq_]; exact (by (with_reducible repeat (first | refine blk_drewN ?_ _ | refine blk_drew ?_ | refine blk_alloc ?_ _)); exact BK298.out)⟩; have n1_ : Aside0 (wc.heap[gb299]? = some (.cells #[.int .i64 2, .int .i64 0, .int .i64 0, .int .i64 0, .int .i64 7200] 42 (0, 0))) := ⟨by rw [← hq_]; exact (by (with_reducible repeat (first | refine blk_drewN ?_ _ | refine blk_drew ?_ | refine blk_alloc ?_ _)); exact BK299.out)⟩; have n2_ : Aside0 (Below w.heap.size w wc) := ⟨by rw [← hq_]; exact (by repeat (first | (with_reducible first | exact HB.out | apply below_alloc | apply pw_below_drewN | apply below_drew1 | refine below_set ?_ GE298.out | refine below_set ?_ GE299.out) | exact HB.out))⟩; clear BK298 BK299 HB hq_; have BK298 := n0_; have BK299 := n1_; have HB := n2_; clear n0_ n1_ n2_)); have hnb38 := NB299_298.out; have hnc38 := NB298_299.out; have hcz39_0 : wc.cell? ⟨gb299, 0, none⟩ = some (.int .i64 2) := (blk_cell BK299.out 0).trans rfl; have hcz39_1 : wc.cell? ⟨gb299, 1, none⟩ = some (.int .i64 0) := (blk_cell BK299.out 1).trans rfl; have hcz39_2 : wc.cell? ⟨gb299, 2, none⟩ = some (.int .i64 0) := (blk_cell BK299.out 2).trans rfl; have hcz39_3 : wc.cell? ⟨gb299, 3, none⟩ = some (.int .i64 0) := (blk_cell BK299.out 3).trans rfl; have hcz39_4 : wc.cell? ⟨gb299, 4, none⟩ = some (.int .i64 7200) := (blk_cell BK299.out 4).trans rfl; have hfz39_0 := blk_frozen BK299.out 0; have hfz39_1 := blk_frozen BK299.out 1; have hfz39_2 := blk_frozen BK299.out 2; have hfz39_3 := blk_frozen BK299.out 3; have hfz39_4 := blk_frozen BK299.out 4; have hcz40_0 : wc.cell? ⟨gb298, 0, none⟩ = some (.int .i64 0) := (blk_cell BK298.out 0).trans rfl; have hcz40_1 : wc.cell? ⟨gb298, 1, none⟩ = some (.int .i64 0) := (blk_cell BK298.out 1).trans rfl; have hcz40_2 : wc.cell? ⟨gb298, 2, none⟩ = some (.int .i64 0) := (blk_cell BK298.out 2).trans rfl; have hcz40_3 : wc.cell? ⟨gb298, 3, none⟩ = some (.int .i64 0) := (blk_cell BK298.out 3).trans rfl; have hcz40_4 : wc.cell? ⟨gb298, 4, none⟩ = some (.int .i64 0) := (blk_cell BK298.out 4).trans rfl; have hfz40_0 := blk_frozen BK298.out 0; have hfz40_1 := blk_frozen BK298.out 1; have hfz40_2 := blk_frozen BK298.out 2; have hfz40_3 := blk_frozen BK298.out 3; have hfz40_4 := blk_frozen BK298.out 4))
          refine bodyPost_ret (results_ct rfl _ _ gb298 42 #[.int .i64 2, .int .i64 t310, .int .i64 0, .int .i64 0, .int .i64 7200] (0, 0) _ rfl (by (with_reducible repeat (first | refine blk_drewN ?_ _ | refine blk_drew ?_ | refine blk_alloc ?_ _)); refine blk_put (cs := #[.int .i64 2, .int .i64 t310, .int .i64 0, .int .i64 0, .int .i64 0]) ?_ 4 _ rfl; (with_reducible repeat (first | refine blk_drewN ?_ _ | refine blk_drew ?_ | refine blk_alloc ?_ _)); refine blk_put (cs := #[.int .i64 2, .int .i64 t310, .int .i64 0, .int .i64 0, .int .i64 0]) ?_ 3 _ rfl; (with_reducible repeat (first | refine blk_drewN ?_ _ | refine blk_drew ?_ | refine blk_alloc ?_ _)); refine blk_put (cs := #[.int .i64 2, .int .i64 t310, .int .i64 0, .int .i64 0, .int .i64 0]) ?_ 2 _ rfl; (with_reducible repeat (first | refine blk_drewN ?_ _ | refine blk_drew ?_ | refine blk_alloc ?_ _)); refine blk_put (cs := #[.int .i64 2, .int .i64 0, .int .i64 0, .int .i64 0, .int .i64 0]) ?_ 1 _ rfl; (with_reducible repeat (first | refine blk_drewN ?_ _ | refine blk_drew ?_ | refine blk_alloc ?_ _)); refine blk_put (cs := #[.int .i64 0, .int .i64 0, .int .i64 0, .int .i64 0, .int .i64 0]) ?_ 0 _ rfl; (with_reducible repeat (first | refine blk_drewN ?_ _ | refine blk_drew ?_ | refine blk_alloc ?_ _)); refine blk_far ?_ NB298_299.out _; (with_reducible repeat (first | refine blk_drewN ?_ _ | refine blk_drew ?_ | refine blk_alloc ?_ _)); exact BK298.out) Tryd.underlying42 rfl (by kernel_rfl)) rfl ?_
          exact ⟨by first | rfl | (simp [errW_none, errW_some] <;> rfl) | (simp [*, errW_none, errW_some] <;> rfl), by repeat (first | (with_reducible first | exact HB.out | apply below_alloc | apply pw_below_drewN | apply below_drew1 | refine below_set ?_ GE298.out | refine below_set ?_ GE299.out) | exact HB.out)⟩

end Go.Proofs.YtghjemcbkackjaaDoor.P
