-- written by this project's program mkprint.py out of the translation; Lean checks it
import Derived.Test.YtghjemcbkackjaaDoorPx0
import Derived.Test.YtghjemcbkackjaaDoorPx20
namespace Go.Proofs.YtghjemcbkackjaaDoor.P
open Go.Proofs.YtghjemcbkackjaaDoor.F
open Go.RowKit Go.Proofs.YtghjemcbkackjaaDoorW.PrintWords Go.Proofs.YtghjemcbkackjaaDoorW.PrintLast Go.Proofs.YtghjemcbkackjaaDoorW.PrintMore
attribute [local go_sem] max2_int min2_int max_two min_two max_three min_three max_four min_four   -- for this text's walks alone
set_option linter.unusedVariables false
set_option linter.unusedSimpArgs false

/-! ### epactref17_At: function 31 -/
def epactref17_At.f (k : Nat) (a0_0 : Int) (a0_1 : Int) (a0_2 : Int) (a0_3 : Int) (a0_4 : Int) (a1 : Int) : Option (Int × Bool) := (epactref17_Day.f k a0_0 a0_1 a0_2 a0_3 a0_4 a1).bind fun bt346 => (if bt346.2 = true then (some (wrap64 ((wrap64 (86400 * bt346.1)) + a0_4), true)) else (some (0, false)))
theorem epactref17_At.mono : ∀ a0 a1 a2 a3 a4 a5 k, LeO (epactref17_At.f k a0 a1 a2 a3 a4 a5) (epactref17_At.f (k + 1) a0 a1 a2 a3 a4 a5) := by
  intro a0 a1 a2 a3 a4 a5 k
  unfold epactref17_At.f
  repeat' first
      | (with_reducible exact epactref17_Day.mono _ _ _ _ _ _ _)
      | (with_reducible exact LeO.refl _)
      | (with_reducible exact LeO.none _)
      | (with_reducible refine LeO.ite ?_ ?_)
      | (with_reducible refine LeO.bind ?_ (fun _ => ?_))
      | exact epactref17_Day.mono _ _ _ _ _ _ _
      | exact LeO.none _
      | refine LeO.ite ?_ ?_
      | refine LeO.bind ?_ (fun _ => ?_)
set_option maxHeartbeats 8000000 in
set_option maxRecDepth 100000 in
theorem epactref17_At.calls (k : Nat) (a0_0 : Int) (a0_1 : Int) (a0_2 : Int) (a0_3 : Int) (a0_4 : Int) (a1 : Int) (r1 : Int) (r2 : Bool) (w : World) (hG : GW w) (h : epactref17_At.f k a0_0 a0_1 a0_2 a0_3 a0_4 a1 = some (r1, r2)) :
    Calls Tryd.prog 31 #[.agg #[.int .i64 a0_0, .int .i64 a0_1, .int .i64 a0_2, .int .i64 a0_3, .int .i64 a0_4], .int .i64 a1] w fun e w' => e = .returned (.tuple #[.int .i64 r1, .bool r2]) ∧ Below w.heap.size w w' := by
  have hu42 := Tryd.underlying42
  have HB := Aside0.mk (Below.refl w.heap.size w)
  have H : ((epactref17_Day.f k a0_0 a0_1 a0_2 a0_3 a0_4 a1).bind fun bt346 => (if bt346.2 = true then (some (wrap64 ((wrap64 (86400 * bt346.1)) + a0_4), true)) else (some (0, false)))) = some (r1, r2) := h
  clear h
  replace H := Option.bind_eq_some_iff.mp H
  obtain ⟨⟨t346, t347⟩, A30, H⟩ := H
  replace H : (if t347 = true then (some (wrap64 ((wrap64 (86400 * t346)) + a0_4), true)) else (some (0, false))) = some (r1, r2) := H
  have A3 := Aside0.mk A30
  clear A30
  by_cases c4 : t347 = true
  · subst c4
    have H1 : (some (wrap64 ((wrap64 (86400 * t346)) + a0_4), true)) = some (r1, r2) := by rw [if_pos rfl] at H; exact H
    clear H
    have H := H1
    clear H1
    simp only [Option.some.injEq, Prod.mk.injEq] at H
    obtain ⟨rfl, rfl⟩ := H
    go_enter Tryd.func31, Tryd.ntmps31
    go_wp2_with (first | ((with_reducible refine gate_dst (N := 2) rfl ?_); refine box_event ?hg (N := 2) ?hd (cs := #[.int .i64 a0_0, .int .i64 a0_1, .int .i64 a0_2, .int .i64 a0_3, .int .i64 a0_4]) (t := 42) ?hr ?_; (case hd => rfl); (case hg => rfl); (case hr => first | (go_simp; done) | (go_simp; rfl)); intro gb345 hg w5 hbox hb; have n0_ := Aside0.mk (below_step (by repeat (first | (with_reducible first | exact HB.out | apply ba | apply bn | apply bd) | exact HB.out)) hb); have n1_ := Aside0.mk (hbox); have n2_ := Aside0.mk ((by rw [hg]; exact (below_size (by repeat (first | (with_reducible first | exact HB.out | apply ba | apply bn | apply bd) | exact HB.out))) : w.heap.size ≤ gb345)); have n3_ := Aside0.mk ((by rw [hg]; exact (below_size (by repeat (first | (with_reducible first | exact HB.out | apply ba | apply bn | apply bd) | exact HB.out))) : w.heap.size ≤ gb345)); clear HB; have HB := n0_; have BK345 := n1_; have GW345 := n2_; have GE345 := n3_; clear n0_ n1_ n2_ n3_; clear hb hbox hg; have hcz6_0 : w5.cell? ⟨gb345, 0, none⟩ = some (.int .i64 a0_0) := (blk_cell BK345.out 0).trans rfl; have hcz6_1 : w5.cell? ⟨gb345, 1, none⟩ = some (.int .i64 a0_1) := (blk_cell BK345.out 1).trans rfl; have hcz6_2 : w5.cell? ⟨gb345, 2, none⟩ = some (.int .i64 a0_2) := (blk_cell BK345.out 2).trans rfl; have hcz6_3 : w5.cell? ⟨gb345, 3, none⟩ = some (.int .i64 a0_3) := (blk_cell BK345.out 3).trans rfl; have hcz6_4 : w5.cell? ⟨gb345, 4, none⟩ = some (.int .i64 a0_4) := (blk_cell BK345.out 4).trans rfl; have hfz6_0 := blk_frozen BK345.out 0; have hfz6_1 := blk_frozen BK345.out 1; have hfz6_2 := blk_frozen BK345.out 2; have hfz6_3 := blk_frozen BK345.out 3; have hfz6_4 := blk_frozen BK345.out 4) | ((with_reducible refine gate_callee (f := 33) rfl ?_); refine goesL_ (some 11) rfl rfl Tryd.func33 (by kernel_rfl) rfl #[.agg #[.int .i64 a0_0, .int .i64 a0_1, .int .i64 a0_2, .int .i64 a0_3, .int .i64 a0_4], .int .i64 a1] rfl (by (try simp only [List.map_toArray, List.map_cons, List.map_nil]); first | done | rfl | (simp only [List.length_drop, List.length_take]; rfl)) ?_; (with_reducible refine (epactref17_Day.calls k a0_0 a0_1 a0_2 a0_3 a0_4 a1 t346 true _ ?side707 A3.out).mono ?_); (case side707 => refine hG.below ?_; repeat (first | (with_reducible first | exact HB.out | apply below_alloc | apply pw_below_drewN | apply below_drew1 | refine below_set ?_ GE345.out) | exact HB.out)); rintro e w8 ⟨rfl, hb⟩; refine ⟨_, rfl, ?_⟩; have n0_ := Aside0.mk (blk_below (g := gb345) (o := .cells #[.int .i64 a0_0, .int .i64 a0_1, .int .i64 a0_2, .int .i64 a0_3, .int .i64 a0_4] 42 (0, 0)) (by (with_reducible repeat (first | refine blk_drewN ?_ _ | refine blk_drew ?_ | refine blk_alloc ?_ _)); exact BK345.out) hb); have n1_ := Aside0.mk (below_step (by repeat (first | (with_reducible first | exact HB.out | apply below_alloc | apply pw_below_drewN | apply below_drew1 | refine below_set ?_ GE345.out) | exact HB.out)) hb); clear BK345; clear HB; have BK345 := n0_; have HB := n1_; clear n0_ n1_; (try clear hb); have hcz9_0 : w8.cell? ⟨gb345, 0, none⟩ = some (.int .i64 a0_0) := (blk_cell BK345.out 0).trans rfl; have hcz9_1 : w8.cell? ⟨gb345, 1, none⟩ = some (.int .i64 a0_1) := (blk_cell BK345.out 1).trans rfl; have hcz9_2 : w8.cell? ⟨gb345, 2, none⟩ = some (.int .i64 a0_2) := (blk_cell BK345.out 2).trans rfl; have hcz9_3 : w8.cell? ⟨gb345, 3, none⟩ = some (.int .i64 a0_3) := (blk_cell BK345.out 3).trans rfl; have hcz9_4 : w8.cell? ⟨gb345, 4, none⟩ = some (.int .i64 a0_4) := (blk_cell BK345.out 4).trans rfl; have hfz9_0 := blk_frozen BK345.out 0; have hfz9_1 := blk_frozen BK345.out 1; have hfz9_2 := blk_frozen BK345.out 2; have hfz9_3 := blk_frozen BK345.out 3; have hfz9_4 := blk_frozen BK345.out 4))
    go_ret2
    exact ⟨by first | rfl | (simp [errW_none, errW_some] <;> rfl) | (simp [*, errW_none, errW_some] <;> rfl), by repeat (first | (with_reducible first | exact HB.out | apply below_alloc | apply pw_below_drewN | apply below_drew1 | refine below_set ?_ GE345.out) | exact HB.out)⟩
  · replace c4 := Bool.eq_false_iff.mpr c4
    subst c4
    have H1 : (some (0, false)) = some (r1, r2) := by rw [if_neg (show ¬ (false = true) by decide)] at H; exact H
    clear H
    have H := H1
    clear H1
    simp only [Option.some.injEq, Prod.mk.injEq] at H
    obtain ⟨rfl, rfl⟩ := H
    go_enter Tryd.func31, Tryd.ntmps31
    go_wp2_with (first | ((with_reducible refine gate_dst (N := 2) rfl ?_); refine box_event ?hg (N := 2) ?hd (cs := #[.int .i64 a0_0, .int .i64 a0_1, .int .i64 a0_2, .int .i64 a0_3, .int .i64 a0_4]) (t := 42) ?hr ?_; (case hd => rfl); (case hg => rfl); (case hr => first | (go_simp; done) | (go_simp; rfl)); intro gb345 hg w10 hbox hb; have n0_ := Aside0.mk (below_step (by repeat (first | (with_reducible first | exact HB.out | apply ba | apply bn | apply bd) | exact HB.out)) hb); have n1_ := Aside0.mk (hbox); have n2_ := Aside0.mk ((by rw [hg]; exact (below_size (by repeat (first | (with_reducible first | exact HB.out | apply ba | apply bn | apply bd) | exact HB.out))) : w.heap.size ≤ gb345)); have n3_ := Aside0.mk ((by rw [hg]; exact (below_size (by repeat (first | (with_reducible first | exact HB.out | apply ba | apply bn | apply bd) | exact HB.out))) : w.heap.size ≤ gb345)); clear HB; have HB := n0_; have BK345 := n1_; have GW345 := n2_; have GE345 := n3_; clear n0_ n1_ n2_ n3_; clear hb hbox hg; have hcz11_0 : w10.cell? ⟨gb345, 0, none⟩ = some (.int .i64 a0_0) := (blk_cell BK345.out 0).trans rfl; have hcz11_1 : w10.cell? ⟨gb345, 1, none⟩ = some (.int .i64 a0_1) := (blk_cell BK345.out 1).trans rfl; have hcz11_2 : w10.cell? ⟨gb345, 2, none⟩ = some (.int .i64 a0_2) := (blk_cell BK345.out 2).trans rfl; have hcz11_3 : w10.cell? ⟨gb345, 3, none⟩ = some (.int .i64 a0_3) := (blk_cell BK345.out 3).trans rfl; have hcz11_4 : w10.cell? ⟨gb345, 4, none⟩ = some (.int .i64 a0_4) := (blk_cell BK345.out 4).trans rfl; have hfz11_0 := blk_frozen BK345.out 0; have hfz11_1 := blk_frozen BK345.out 1; have hfz11_2 := blk_frozen BK345.out 2; have hfz11_3 := blk_frozen BK345.out 3; have hfz11_4 := blk_frozen BK345.out 4) | ((with_reducible refine gate_callee (f := 33) rfl ?_); refine goesL_ (some 11) rfl rfl Tryd.func33 (by kernel_rfl) rfl #[.agg #[.int .i64 a0_0, .int .i64 a0_1, .int .i64 a0_2, .int .i64 a0_3, .int .i64 a0_4], .int .i64 a1] rfl (by (try simp only [List.map_toArray, List.map_cons, List.map_nil]); first | done | rfl | (simp only [List.length_drop, List.length_take]; rfl)) ?_; (with_reducible refine (epactref17_Day.calls k a0_0 a0_1 a0_2 a0_3 a0_4 a1 t346 false _ ?side712 A3.out).mono ?_); (case side712 => refine hG.below ?_; repeat (first | (with_reducible first | exact HB.out | apply below_alloc | apply pw_below_drewN | apply below_drew1 | refine below_set ?_ GE345.out) | exact HB.out)); rintro e w13 ⟨rfl, hb⟩; refine ⟨_, rfl, ?_⟩; have n0_ := Aside0.mk (blk_below (g := gb345) (o := .cells #[.int .i64 a0_0, .int .i64 a0_1, .int .i64 a0_2, .int .i64 a0_3, .int .i64 a0_4] 42 (0, 0)) (by (with_reducible repeat (first | refine blk_drewN ?_ _ | refine blk_drew ?_ | refine blk_alloc ?_ _)); exact BK345.out) hb); have n1_ := Aside0.mk (below_step (by repeat (first | (with_reducible first | exact HB.out | apply below_alloc | apply pw_below_drewN | apply below_drew1 | refine below_set ?_ GE345.out) | exact HB.out)) hb); clear BK345; clear HB; have BK345 := n0_; have HB := n1_; clear n0_ n1_; (try clear hb)))
    go_ret2
    exact ⟨by first | rfl | (simp [errW_none, errW_some] <;> rfl) | (simp [*, errW_none, errW_some] <;> rfl), by repeat (first | (with_reducible first | exact HB.out | apply below_alloc | apply pw_below_drewN | apply below_drew1 | refine below_set ?_ GE345.out) | exact HB.out)⟩

end Go.Proofs.YtghjemcbkackjaaDoor.P
