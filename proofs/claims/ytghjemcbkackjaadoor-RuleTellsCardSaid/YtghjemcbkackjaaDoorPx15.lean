-- written by this project's program mkprint.py out of the translation; Lean checks it
import Derived.Test.YtghjemcbkackjaaDoorPx0
import Derived.Test.YtghjemcbkackjaaDoorPx11
import Derived.Test.YtghjemcbkackjaaDoorPx14
namespace Go.Proofs.YtghjemcbkackjaaDoor.P
open Go.Proofs.YtghjemcbkackjaaDoor.F
open Go.RowKit Go.Proofs.YtghjemcbkackjaaDoorW.PrintWords Go.Proofs.YtghjemcbkackjaaDoorW.PrintLast Go.Proofs.YtghjemcbkackjaaDoorW.PrintMore
attribute [local go_sem] max2_int min2_int max_two min_two max_three min_three max_four min_four   -- for this text's walks alone
set_option linter.unusedVariables false
set_option linter.unusedSimpArgs false

/-! ### epactref17_Text: function 27 -/
def epactref17_Text.j0 : Nat → ByteArray → Int → Int → Int → Int → Int → Option (ByteArray × Bool)
  | 0, _, _, _, _, _, _ => none
  | k + 1, x4, x288000, x288001, x288002, x288003, x288004 => if x288000 = 1 then (if 1 + x4.size ≤ 9223372036854775807 then (if x288004 = 7200 then (some ((⟨#[74]⟩ : ByteArray) ++ x4, true)) else ((epactref17_Clock.f k x288004).bind fun bt292 => (if 1 + x4.size + 1 ≤ 9223372036854775807 then (if 1 + x4.size + 1 + bt292.1.size ≤ 9223372036854775807 then (some ((((⟨#[74]⟩ : ByteArray) ++ x4) ++ (⟨#[47]⟩ : ByteArray)) ++ bt292.1, true)) else (none)) else (none)))) else (none)) else (if x288004 = 7200 then (some (x4, true)) else ((epactref17_Clock.f k x288004).bind fun bt294 => (if x4.size + 1 ≤ 9223372036854775807 then (if x4.size + 1 + bt294.1.size ≤ 9223372036854775807 then (some ((x4 ++ (⟨#[47]⟩ : ByteArray)) ++ bt294.1, true)) else (none)) else (none))))
def epactref17_Text.f (k : Nat) (a0_0 : Int) (a0_1 : Int) (a0_2 : Int) (a0_3 : Int) (a0_4 : Int) : Option (ByteArray × Bool) := (epactref17_Right.f k a0_0 a0_1 a0_2 a0_3 a0_4).bind fun t288 => (if t288 = true then ((epactref17_decimals.f k a0_1 1).bind fun t289 => (if a0_0 = 0 then (if 1 + t289.size ≤ 9223372036854775807 then (if 1 + t289.size + 1 ≤ 9223372036854775807 then ((epactref17_decimals.f k a0_2 1).bind fun t290 => (if 1 + t289.size + 1 + t290.size ≤ 9223372036854775807 then (if 1 + t289.size + 1 + t290.size + 1 ≤ 9223372036854775807 then ((epactref17_decimals.f k a0_3 1).bind fun t291 => (if 1 + t289.size + 1 + t290.size + 1 + t291.size ≤ 9223372036854775807 then (epactref17_Text.j0 k ((((((⟨#[77]⟩ : ByteArray) ++ t289) ++ (⟨#[46]⟩ : ByteArray)) ++ t290) ++ (⟨#[46]⟩ : ByteArray)) ++ t291) a0_0 a0_1 a0_2 a0_3 a0_4) else (none))) else (none)) else (none))) else (none)) else (none)) else (epactref17_Text.j0 k t289 a0_0 a0_1 a0_2 a0_3 a0_4))) else (some ((⟨#[]⟩ : ByteArray), false)))
theorem epactref17_Text.mono_l : ∀ k, (∀ y0 y1 y2 y3 y4 y5, LeO (epactref17_Text.j0 k y0 y1 y2 y3 y4 y5) (epactref17_Text.j0 (k + 1) y0 y1 y2 y3 y4 y5))
  | 0 => fun _ _ _ _ _ _ r h => by simp [epactref17_Text.j0] at h
  | k + 1 => by
    have ih0 := epactref17_Text.mono_l k
    · intro y0 y1 y2 y3 y4 y5
      unfold epactref17_Text.j0
      repeat' first
      | (with_reducible exact ih0 _ _ _ _ _ _)
      | (with_reducible exact epactref17_Clock.mono _ _)
      | (with_reducible exact epactref17_Right.mono _ _ _ _ _ _)
      | (with_reducible exact epactref17_decimals.mono _ _ _)
      | (with_reducible exact LeO.refl _)
      | (with_reducible exact LeO.none _)
      | (with_reducible refine LeO.ite ?_ ?_)
      | (with_reducible refine LeO.bind ?_ (fun _ => ?_))
      | exact ih0 _ _ _ _ _ _
      | exact epactref17_Clock.mono _ _
      | exact epactref17_Right.mono _ _ _ _ _ _
      | exact epactref17_decimals.mono _ _ _
      | exact LeO.none _
      | refine LeO.ite ?_ ?_
      | refine LeO.bind ?_ (fun _ => ?_)
theorem epactref17_Text.mono : ∀ a0 a1 a2 a3 a4 k, LeO (epactref17_Text.f k a0 a1 a2 a3 a4) (epactref17_Text.f (k + 1) a0 a1 a2 a3 a4) := by
  intro a0 a1 a2 a3 a4 k
  have ih0 := epactref17_Text.mono_l k
  unfold epactref17_Text.f
  repeat' first
      | (with_reducible exact ih0 _ _ _ _ _ _)
      | (with_reducible exact epactref17_Clock.mono _ _)
      | (with_reducible exact epactref17_Right.mono _ _ _ _ _ _)
      | (with_reducible exact epactref17_decimals.mono _ _ _)
      | (with_reducible exact LeO.refl _)
      | (with_reducible exact LeO.none _)
      | (with_reducible refine LeO.ite ?_ ?_)
      | (with_reducible refine LeO.bind ?_ (fun _ => ?_))
      | exact ih0 _ _ _ _ _ _
      | exact epactref17_Clock.mono _ _
      | exact epactref17_Right.mono _ _ _ _ _ _
      | exact epactref17_decimals.mono _ _ _
      | exact LeO.none _
      | refine LeO.ite ?_ ?_
      | refine LeO.bind ?_ (fun _ => ?_)
def epactref17_Text.T5 : Bool × List (List Nat × List Nat) := (true, [([], []), ([0], [0]), ([1], [1]), ([], []), ([3], [3]), ([4], [4]), ([2, 5], [2, 5]), ([6], [6]), ([], []), ([8], [8]), ([9, 5], [9]), ([7, 10], [7, 10]), ([11, 10, 0, 1, 2, 3, 4, 5, 6, 7, 8, 9, 10, 11], [0, 11])])
def epactref17_Text.B5 : List Nat := [0, 1, 3, 0, 8, 24, 63, 127, 0, 256, 824, 2047, 4095]
theorem epactref17_Text.tab5 : rtab .any (opsOf Tryd.f27 5) = epactref17_Text.T5 := by kernel_rfl
theorem epactref17_Text.bits5 : waitsOk epactref17_Text.T5.2 epactref17_Text.B5 = true := by kernel_rfl
set_option maxHeartbeats 8000000 in
set_option maxRecDepth 100000 in
theorem epactref17_Text.calls (k : Nat) (a0_0 : Int) (a0_1 : Int) (a0_2 : Int) (a0_3 : Int) (a0_4 : Int) (r1 : ByteArray) (r2 : Bool) (w : World) (hG : GW w) (h : epactref17_Text.f k a0_0 a0_1 a0_2 a0_3 a0_4 = some (r1, r2)) :
    Calls Tryd.prog 27 #[.agg #[.int .i64 a0_0, .int .i64 a0_1, .int .i64 a0_2, .int .i64 a0_3, .int .i64 a0_4]] w fun e w' => e = .returned (.tuple #[.string r1, .bool r2]) ∧ Below w.heap.size w w' := by
  have hu42 := Tryd.underlying42
  have HB := Aside0.mk (Below.refl w.heap.size w)
  have H : ((epactref17_Right.f k a0_0 a0_1 a0_2 a0_3 a0_4).bind fun t288 => (if t288 = true then ((epactref17_decimals.f k a0_1 1).bind fun t289 => (if a0_0 = 0 then (if 1 + t289.size ≤ 9223372036854775807 then (if 1 + t289.size + 1 ≤ 9223372036854775807 then ((epactref17_decimals.f k a0_2 1).bind fun t290 => (if 1 + t289.size + 1 + t290.size ≤ 9223372036854775807 then (if 1 + t289.size + 1 + t290.size + 1 ≤ 9223372036854775807 then ((epactref17_decimals.f k a0_3 1).bind fun t291 => (if 1 + t289.size + 1 + t290.size + 1 + t291.size ≤ 9223372036854775807 then (epactref17_Text.j0 k ((((((⟨#[77]⟩ : ByteArray) ++ t289) ++ (⟨#[46]⟩ : ByteArray)) ++ t290) ++ (⟨#[46]⟩ : ByteArray)) ++ t291) a0_0 a0_1 a0_2 a0_3 a0_4) else (none))) else (none)) else (none))) else (none)) else (none)) else (epactref17_Text.j0 k t289 a0_0 a0_1 a0_2 a0_3 a0_4))) else (some ((⟨#[]⟩ : ByteArray), false)))) = some (r1, r2) := h
  clear h
  replace H := Option.bind_eq_some_iff.mp H
  obtain ⟨t288, A20, H⟩ := H
  replace H : (if t288 = true then ((epactref17_decimals.f k a0_1 1).bind fun t289 => (if a0_0 = 0 then (if 1 + t289.size ≤ 9223372036854775807 then (if 1 + t289.size + 1 ≤ 9223372036854775807 then ((epactref17_decimals.f k a0_2 1).bind fun t290 => (if 1 + t289.size + 1 + t290.size ≤ 9223372036854775807 then (if 1 + t289.size + 1 + t290.size + 1 ≤ 9223372036854775807 then ((epactref17_decimals.f k a0_3 1).bind fun t291 => (if 1 + t289.size + 1 + t290.size + 1 + t291.size ≤ 9223372036854775807 then (epactref17_Text.j0 k ((((((⟨#[77]⟩ : ByteArray) ++ t289) ++ (⟨#[46]⟩ : ByteArray)) ++ t290) ++ (⟨#[46]⟩ : ByteArray)) ++ t291) a0_0 a0_1 a0_2 a0_3 a0_4) else (none))) else (none)) else (none))) else (none)) else (none)) else (epactref17_Text.j0 k t289 a0_0 a0_1 a0_2 a0_3 a0_4))) else (some ((⟨#[]⟩ : ByteArray), false))) = some (r1, r2) := H
  have A2 := Aside0.mk A20
  clear A20
  by_cases c3 : t288 = true
  · subst c3
    have H1 : ((epactref17_decimals.f k a0_1 1).bind fun t289 => (if a0_0 = 0 then (if 1 + t289.size ≤ 9223372036854775807 then (if 1 + t289.size + 1 ≤ 9223372036854775807 then ((epactref17_decimals.f k a0_2 1).bind fun t290 => (if 1 + t289.size + 1 + t290.size ≤ 9223372036854775807 then (if 1 + t289.size + 1 + t290.size + 1 ≤ 9223372036854775807 then ((epactref17_decimals.f k a0_3 1).bind fun t291 => (if 1 + t289.size + 1 + t290.size + 1 + t291.size ≤ 9223372036854775807 then (epactref17_Text.j0 k ((((((⟨#[77]⟩ : ByteArray) ++ t289) ++ (⟨#[46]⟩ : ByteArray)) ++ t290) ++ (⟨#[46]⟩ : ByteArray)) ++ t291) a0_0 a0_1 a0_2 a0_3 a0_4) else (none))) else (none)) else (none))) else (none)) else (none)) else (epactref17_Text.j0 k t289 a0_0 a0_1 a0_2 a0_3 a0_4))) = some (r1, r2) := by rw [if_pos rfl] at H; exact H
    clear H
    have H := H1
    clear H1
    replace H := Option.bind_eq_some_iff.mp H
    obtain ⟨t289, A40, H⟩ := H
    replace H : (if a0_0 = 0 then (if 1 + t289.size ≤ 9223372036854775807 then (if 1 + t289.size + 1 ≤ 9223372036854775807 then ((epactref17_decimals.f k a0_2 1).bind fun t290 => (if 1 + t289.size + 1 + t290.size ≤ 9223372036854775807 then (if 1 + t289.size + 1 + t290.size + 1 ≤ 9223372036854775807 then ((epactref17_decimals.f k a0_3 1).bind fun t291 => (if 1 + t289.size + 1 + t290.size + 1 + t291.size ≤ 9223372036854775807 then (epactref17_Text.j0 k ((((((⟨#[77]⟩ : ByteArray) ++ t289) ++ (⟨#[46]⟩ : ByteArray)) ++ t290) ++ (⟨#[46]⟩ : ByteArray)) ++ t291) a0_0 a0_1 a0_2 a0_3 a0_4) else (none))) else (none)) else (none))) else (none)) else (none)) else (epactref17_Text.j0 k t289 a0_0 a0_1 a0_2 a0_3 a0_4)) = some (r1, r2) := H
    have A4 := Aside0.mk A40
    clear A40
    have HC5 := Aside0.mk H
    clear H
    go_enter Tryd.func27, Tryd.ntmps27
    go_upto_if 15 with (first | ((with_reducible refine gate_dst (N := 1) rfl ?_); refine box_event ?hg (N := 1) ?hd (cs := #[.int .i64 a0_0, .int .i64 a0_1, .int .i64 a0_2, .int .i64 a0_3, .int .i64 a0_4]) (t := 42) ?hr ?_; (case hd => rfl); (case hg => rfl); (case hr => first | (go_simp; done) | (go_simp; rfl)); intro gb287 hg w6 hbox hb; have n0_ := Aside0.mk (below_step (by repeat (first | (with_reducible first | exact HB.out | apply ba | apply bn | apply bd) | exact HB.out)) hb); have n1_ := Aside0.mk (hbox); have n2_ := Aside0.mk ((by rw [hg]; exact (below_size (by repeat (first | (with_reducible first | exact HB.out | apply ba | apply bn | apply bd) | exact HB.out))) : w.heap.size ≤ gb287)); have n3_ := Aside0.mk ((by rw [hg]; exact (below_size (by repeat (first | (with_reducible first | exact HB.out | apply ba | apply bn | apply bd) | exact HB.out))) : w.heap.size ≤ gb287)); clear HB; have HB := n0_; have BK287 := n1_; have GW287 := n2_; have GE287 := n3_; clear n0_ n1_ n2_ n3_; clear hb hbox hg; have hcz7_0 : w6.cell? ⟨gb287, 0, none⟩ = some (.int .i64 a0_0) := (blk_cell BK287.out 0).trans rfl; have hcz7_1 : w6.cell? ⟨gb287, 1, none⟩ = some (.int .i64 a0_1) := (blk_cell BK287.out 1).trans rfl; have hcz7_2 : w6.cell? ⟨gb287, 2, none⟩ = some (.int .i64 a0_2) := (blk_cell BK287.out 2).trans rfl; have hcz7_3 : w6.cell? ⟨gb287, 3, none⟩ = some (.int .i64 a0_3) := (blk_cell BK287.out 3).trans rfl; have hcz7_4 : w6.cell? ⟨gb287, 4, none⟩ = some (.int .i64 a0_4) := (blk_cell BK287.out 4).trans rfl; have hfz7_0 := blk_frozen BK287.out 0; have hfz7_1 := blk_frozen BK287.out 1; have hfz7_2 := blk_frozen BK287.out 2; have hfz7_3 := blk_frozen BK287.out 3; have hfz7_4 := blk_frozen BK287.out 4) | ((with_reducible refine gate_callee (f := 35) rfl ?_); refine goesL_ (some 8) rfl rfl Tryd.func35 (by kernel_rfl) rfl #[.agg #[.int .i64 a0_0, .int .i64 a0_1, .int .i64 a0_2, .int .i64 a0_3, .int .i64 a0_4]] rfl (by (try simp only [List.map_toArray, List.map_cons, List.map_nil]); first | done | rfl | (simp only [List.length_drop, List.length_take]; rfl)) ?_; (with_reducible refine (epactref17_Right.calls k a0_0 a0_1 a0_2 a0_3 a0_4 true _ ?side708 A2.out).mono ?_); (case side708 => refine hG.below ?_; repeat (first | (with_reducible first | exact HB.out | apply below_alloc | apply pw_below_drewN | apply below_drew1 | refine below_set ?_ GE287.out) | exact HB.out)); rintro e w9 ⟨rfl, hb⟩; refine ⟨_, rfl, ?_⟩; have n0_ := Aside0.mk (blk_below (g := gb287) (o := .cells #[.int .i64 a0_0, .int .i64 a0_1, .int .i64 a0_2, .int .i64 a0_3, .int .i64 a0_4] 42 (0, 0)) (by (with_reducible repeat (first | refine blk_drewN ?_ _ | refine blk_drew ?_ | refine blk_alloc ?_ _)); exact BK287.out) hb); have n1_ := Aside0.mk (below_step (by repeat (first | (with_reducible first | exact HB.out | apply below_alloc | apply pw_below_drewN | apply below_drew1 | refine below_set ?_ GE287.out) | exact HB.out)) hb); clear BK287; clear HB; have BK287 := n0_; have HB := n1_; clear n0_ n1_; (try clear hb); have hcz10_0 : w9.cell? ⟨gb287, 0, none⟩ = some (.int .i64 a0_0) := (blk_cell BK287.out 0).trans rfl; have hcz10_1 : w9.cell? ⟨gb287, 1, none⟩ = some (.int .i64 a0_1) := (blk_cell BK287.out 1).trans rfl; have hcz10_2 : w9.cell? ⟨gb287, 2, none⟩ = some (.int .i64 a0_2) := (blk_cell BK287.out 2).trans rfl; have hcz10_3 : w9.cell? ⟨gb287, 3, none⟩ = some (.int .i64 a0_3) := (blk_cell BK287.out 3).trans rfl; have hcz10_4 : w9.cell? ⟨gb287, 4, none⟩ = some (.int .i64 a0_4) := (blk_cell BK287.out 4).trans rfl; have hfz10_0 := blk_frozen BK287.out 0; have hfz10_1 := blk_frozen BK287.out 1; have hfz10_2 := blk_frozen BK287.out 2; have hfz10_3 := blk_frozen BK287.out 3; have hfz10_4 := blk_frozen BK287.out 4) | ((with_reducible refine gate_callee (f := 45) rfl ?_); refine goesL_ (some 12) rfl rfl Tryd.func45 (by kernel_rfl) rfl #[.int .i64 a0_1, .int .i64 1] rfl (by (try simp only [List.map_toArray, List.map_cons, List.map_nil]); first | done | rfl | (simp only [List.length_drop, List.length_take]; rfl)) ?_; (with_reducible refine (epactref17_decimals.calls k a0_1 1 t289 _ ?side711 A4.out).mono ?_); (case side711 => refine hG.below ?_; repeat (first | (with_reducible first | exact HB.out | apply below_alloc | apply pw_below_drewN | apply below_drew1 | refine below_set ?_ GE287.out) | exact HB.out)); rintro e w12 ⟨rfl, hb⟩; refine ⟨_, rfl, ?_⟩; have n0_ := Aside0.mk (blk_below (g := gb287) (o := .cells #[.int .i64 a0_0, .int .i64 a0_1, .int .i64 a0_2, .int .i64 a0_3, .int .i64 a0_4] 42 (0, 0)) (by (with_reducible repeat (first | refine blk_drewN ?_ _ | refine blk_drew ?_ | refine blk_alloc ?_ _)); exact BK287.out) hb); have n1_ := Aside0.mk (below_step (by repeat (first | (with_reducible first | exact HB.out | apply below_alloc | apply pw_below_drewN | apply below_drew1 | refine below_set ?_ GE287.out) | exact HB.out)) hb); clear BK287; clear HB; have BK287 := n0_; have HB := n1_; clear n0_ n1_; (try clear hb); have hcz13_0 : w12.cell? ⟨gb287, 0, none⟩ = some (.int .i64 a0_0) := (blk_cell BK287.out 0).trans rfl; have hcz13_1 : w12.cell? ⟨gb287, 1, none⟩ = some (.int .i64 a0_1) := (blk_cell BK287.out 1).trans rfl; have hcz13_2 : w12.cell? ⟨gb287, 2, none⟩ = some (.int .i64 a0_2) := (blk_cell BK287.out 2).trans rfl; have hcz13_3 : w12.cell? ⟨gb287, 3, none⟩ = some (.int .i64 a0_3) := (blk_cell BK287.out 3).trans rfl; have hcz13_4 : w12.cell? ⟨gb287, 4, none⟩ = some (.int .i64 a0_4) := (blk_cell BK287.out 4).trans rfl; have hfz13_0 := blk_frozen BK287.out 0; have hfz13_1 := blk_frozen BK287.out 1; have hfz13_2 := blk_frozen BK287.out 2; have hfz13_3 := blk_frozen BK287.out 3; have hfz13_4 := blk_frozen BK287.out 4))
    (try simp only [Act.put, List.setIfInBounds_toArray, List.set_cons_zero, List.set_cons_succ])
    go_cut [4] (fun v4 wc => ∃ (kq : Nat) (x4_4 : ByteArray), v4 = .string x4_4 ∧ Aside0 (epactref17_Text.j0 kq x4_4 a0_0 a0_1 a0_2 a0_3 a0_4 = some (r1, r2)) ∧ Aside0 (kq ≤ k) ∧ Aside0 (wc.heap[gb287]? = some (.cells #[.int .i64 a0_0, .int .i64 a0_1, .int .i64 a0_2, .int .i64 a0_3, .int .i64 a0_4] 42 (0, 0))) ∧ Aside0 (Below w.heap.size w wc))
    case first =>
      have H := HC5.out
      clear HC5
      by_cases c14 : a0_0 = 0
      · rw [if_pos c14] at H
        have c14b0 : (a0_0 == 0) = true := beq_iff_eq.mpr c14
        have c14b1 : (a0_0 != 0) = false := bne_eq_false_iff_eq.mpr c14
        clear c14
        (first | rw [c14b0] | (simp only [i64_w, i32_w]; rw [c14b0]) | skip)
        by_cases c15 : 1 + t289.size ≤ 9223372036854775807
        · rw [if_pos c15] at H
          have c15b0 := eq_true c15
          have c15b1 : decide (1 + t289.size ≤ 9223372036854775807) = true := decide_eq_true c15
          try have c15b2 : (9223372036854775807 < 1 + t289.size) = False := eq_false (Nat.not_lt.2 c15)
          by_cases c16 : 1 + t289.size + 1 ≤ 9223372036854775807
          · rw [if_pos c16] at H
            have c16b0 := eq_true c16
            have c16b1 : decide (1 + t289.size + 1 ≤ 9223372036854775807) = true := decide_eq_true c16
            try have c16b2 : (9223372036854775807 < 1 + t289.size + 1) = False := eq_false (Nat.not_lt.2 c16)
            replace H := Option.bind_eq_some_iff.mp H
            obtain ⟨t290, A170, H⟩ := H
            replace H : (if 1 + t289.size + 1 + t290.size ≤ 9223372036854775807 then (if 1 + t289.size + 1 + t290.size + 1 ≤ 9223372036854775807 then ((epactref17_decimals.f k a0_3 1).bind fun t291 => (if 1 + t289.size + 1 + t290.size + 1 + t291.size ≤ 9223372036854775807 then (epactref17_Text.j0 k ((((((⟨#[77]⟩ : ByteArray) ++ t289) ++ (⟨#[46]⟩ : ByteArray)) ++ t290) ++ (⟨#[46]⟩ : ByteArray)) ++ t291) a0_0 a0_1 a0_2 a0_3 a0_4) else (none))) else (none)) else (none)) = some (r1, r2) := H
            have A17 := Aside0.mk A170
            clear A170
            by_cases c18 : 1 + t289.size + 1 + t290.size ≤ 9223372036854775807
            · rw [if_pos c18] at H
              have c18b0 := eq_true c18
              have c18b1 : decide (1 + t289.size + 1 + t290.size ≤ 9223372036854775807) = true := decide_eq_true c18
              try have c18b2 : (9223372036854775807 < 1 + t289.size + 1 + t290.size) = False := eq_false (Nat.not_lt.2 c18)
              by_cases c19 : 1 + t289.size + 1 + t290.size + 1 ≤ 9223372036854775807
              · rw [if_pos c19] at H
                have c19b0 := eq_true c19
                have c19b1 : decide (1 + t289.size + 1 + t290.size + 1 ≤ 9223372036854775807) = true := decide_eq_true c19
                try have c19b2 : (9223372036854775807 < 1 + t289.size + 1 + t290.size + 1) = False := eq_false (Nat.not_lt.2 c19)
                replace H := Option.bind_eq_some_iff.mp H
                obtain ⟨t291, A200, H⟩ := H
                replace H : (if 1 + t289.size + 1 + t290.size + 1 + t291.size ≤ 9223372036854775807 then (epactref17_Text.j0 k ((((((⟨#[77]⟩ : ByteArray) ++ t289) ++ (⟨#[46]⟩ : ByteArray)) ++ t290) ++ (⟨#[46]⟩ : ByteArray)) ++ t291) a0_0 a0_1 a0_2 a0_3 a0_4) else (none)) = some (r1, r2) := H
                have A20 := Aside0.mk A200
                clear A200
                by_cases c21 : 1 + t289.size + 1 + t290.size + 1 + t291.size ≤ 9223372036854775807
                · rw [if_pos c21] at H
                  have c21b0 := eq_true c21
                  have c21b1 : decide (1 + t289.size + 1 + t290.size + 1 + t291.size ≤ 9223372036854775807) = true := decide_eq_true c21
                  try have c21b2 : (9223372036854775807 < 1 + t289.size + 1 + t290.size + 1 + t291.size) = False := eq_false (Nat.not_lt.2 c21)
                  have H' := Aside0.mk H
                  clear H
                  try go_wp2
                  have n0_ := Aside0.mk (blk_drew BK287.out)
                  have n1_ := Aside0.mk (below_drew1 HB.out)
                  clear BK287
                  clear HB
                  have BK287 := n0_
                  have HB := n1_
                  clear n0_ n1_
                  refine start_ (n := 13) (S := fun w' => w'.cell? ⟨gb287, 0, none⟩ = some (.int .i64 a0_0) ∧ w'.cell? ⟨gb287, 1, none⟩ = some (.int .i64 a0_1) ∧ w'.cell? ⟨gb287, 2, none⟩ = some (.int .i64 a0_2) ∧ w'.cell? ⟨gb287, 3, none⟩ = some (.int .i64 a0_3) ∧ w'.cell? ⟨gb287, 4, none⟩ = some (.int .i64 a0_4)) (ds := []) (bw 13 0) (by kernel_rfl) rfl rfl ⟨(blk_cell BK287.out 0).trans rfl, (blk_cell BK287.out 1).trans rfl, (blk_cell BK287.out 2).trans rfl, (blk_cell BK287.out 3).trans rfl, (blk_cell BK287.out 4).trans rfl⟩ (fun hHeld => ?_); refine with_tabW epactref17_Text.tab5 epactref17_Text.bits5 (fun HT_ HW_ => ?_)
                  generalize w12.drew = w22 at BK287 HB hHeld ⊢
                  refine pure_ (i := 0) (N := some 16) (v := ?_) (a' := ?_) (bw 13 1) rfl rfl (any_of HT_.out (by kernel_rfl)) (fun _ _ _ h => h) (Or.inl ⟨by rfl, ?_⟩) ?_ ?_
                  rotate_left
                  · intro w'
                    go_simp
                    with_reducible rfl
                  rotate_left
                  · simp only [Act.put, List.setIfInBounds_toArray, List.set_cons_zero, List.set_cons_succ, i64_w, i32_w]
                    rfl
                  refine pure_ (i := 1) (N := some 17) (v := ?_) (a' := ?_) (bw 13 3) rfl rfl (any_of HT_.out (by kernel_rfl)) (fun _ _ _ h => h) (Or.inl ⟨by rfl, ?_⟩) ?_ ?_
                  rotate_left
                  · intro w'
                    go_simp
                    with_reducible rfl
                  rotate_left
                  · simp only [Act.put, List.setIfInBounds_toArray, List.set_cons_zero, List.set_cons_succ, i64_w, i32_w]
                    rfl
                  refine pure_ (i := 2) (N := some 18) (v := ?_) (a' := ?_) (bw 13 7) rfl rfl (any_of HT_.out (by kernel_rfl)) (fun _ _ _ h => h) (Or.inl ⟨by rfl, ?_⟩) ?_ ?_
                  rotate_left
                  · intro w'
                    go_simp
                    with_reducible rfl
                  rotate_left
                  · simp only [Act.put, List.setIfInBounds_toArray, List.set_cons_zero, List.set_cons_succ, i64_w, i32_w]
                    rfl
                  refine pure_ (i := 3) (N := some 19) (v := ?_) (a' := ?_) (bw 13 15) rfl rfl (any_of HT_.out (by kernel_rfl)) (fun _ _ _ h => h) (Or.inl ⟨by rfl, ?_⟩) ?_ ?_
                  rotate_left
                  · intro w'
                    go_simp
                    with_reducible rfl
                  rotate_left
                  · simp only [Act.put, List.setIfInBounds_toArray, List.set_cons_zero, List.set_cons_succ, i64_w, i32_w]
                    rfl
                  refine pure_ (i := 8) (N := some 24) (v := ?_) (a' := ?_) (bw 13 271) rfl rfl (any_of HT_.out (by kernel_rfl)) (fun _ _ _ h => h) (Or.inl ⟨by rfl, ?_⟩) ?_ ?_
                  rotate_left
                  · intro w'
                    go_simp
                    with_reducible rfl
                  rotate_left
                  · simp only [Act.put, List.setIfInBounds_toArray, List.set_cons_zero, List.set_cons_succ, i64_w, i32_w]
                    rfl
                  refine take_ (i := 4) (N := some 20) (v := ?_) (a' := ?_) (bw 13 287) rfl rfl (take_ofW HT_.out HW_.out (by kernel_rfl)) (fun _ _ _ h => h) (Or.inl ⟨by rfl, ?_⟩) hHeld ?_ ?_
                  rotate_left
                  · rintro w' ⟨s0, s1, s2, s3, s4⟩
                    go_simp
                    with_reducible rfl
                  rotate_left
                  · simp only [Act.put, List.setIfInBounds_toArray, List.set_cons_zero, List.set_cons_succ, i64_w, i32_w]
                    rfl
                  refine take_ (i := 9) (N := some 25) (v := ?_) (a' := ?_) (bw 13 799) rfl rfl (take_ofW HT_.out HW_.out (by kernel_rfl)) (fun _ _ _ h => h) (Or.inl ⟨by rfl, ?_⟩) hHeld ?_ ?_
                  rotate_left
                  · rintro w' ⟨s0, s1, s2, s3, s4⟩
                    go_simp
                    with_reducible rfl
                  rotate_left
                  · simp only [Act.put, List.setIfInBounds_toArray, List.set_cons_zero, List.set_cons_succ, i64_w, i32_w]
                    rfl
                  refine one_ (i := 5) (N := some 21) (bw 13 831) rfl rfl (one_of HT_.out (by kernel_rfl)) (by decide) (fun K hK => ?_)
                  refine goes_ Tryd.func45 (by kernel_rfl) rfl #[.int .i64 a0_2, .int .i64 1] (by rfl) rfl rfl (by (try simp only [List.map_toArray, List.map_cons, List.map_nil]); first | done | rfl | (simp only [List.length_drop, List.length_take]; rfl)) ?_
                  with_reducible refine (epactref17_decimals.calls k a0_2 1 t290 _ ?side723 A17.out).mono ?_
                  (case side723 => refine hG.below ?_; repeat (first | (with_reducible first | exact HB.out | apply below_alloc | apply pw_below_drewN | apply below_drew1 | refine below_set ?_ GE287.out) | exact HB.out))
                  rintro e w24 ⟨rfl, hb⟩
                  refine ⟨_, rfl, ?_⟩
                  have n0_ := Aside0.mk (blk_below (g := gb287) (o := .cells #[.int .i64 a0_0, .int .i64 a0_1, .int .i64 a0_2, .int .i64 a0_3, .int .i64 a0_4] 42 (0, 0)) (by (with_reducible repeat (first | refine blk_drewN ?_ _ | refine blk_drew ?_ | refine blk_alloc ?_ _)); exact BK287.out) hb)
                  have n1_ := Aside0.mk (below_step (by repeat (first | (with_reducible first | exact HB.out | apply below_alloc | apply pw_below_drewN | apply below_drew1 | refine below_set ?_ GE287.out) | exact HB.out)) hb)
                  clear BK287
                  clear HB
                  have BK287 := n0_
                  have HB := n1_
                  clear n0_ n1_
                  (try clear hb)
                  (try clear hb2)
                  (try clear hk)
                  (try clear hi)
                  refine hK.out _ _ ⟨(blk_cell BK287.out 0).trans rfl, (blk_cell BK287.out 1).trans rfl, (blk_cell BK287.out 2).trans rfl, (blk_cell BK287.out 3).trans rfl, (blk_cell BK287.out 4).trans rfl⟩ (fun hHeld => ?_)
                  clear hK K
                  refine norm_ (a' := ?_) ?_ ?_
                  rotate_left
                  · show Act.put _ (some 21) _ = _
                    simp only [Act.put, List.setIfInBounds_toArray, List.set_cons_zero, List.set_cons_succ, i64_w, i32_w]
                    rfl
                  refine pure_ (i := 6) (N := some 22) (v := ?_) (a' := ?_) (bw 13 895) rfl rfl (any_of HT_.out (by kernel_rfl)) (fun _ _ _ h => h) (Or.inl ⟨by rfl, ?_⟩) ?_ ?_
                  rotate_left
                  · intro w'
                    go_simp
                    with_reducible rfl
                  rotate_left
                  · simp only [Act.put, List.setIfInBounds_toArray, List.set_cons_zero, List.set_cons_succ, i64_w, i32_w]
                    rfl
                  refine pure_ (i := 7) (N := some 23) (v := ?_) (a' := ?_) (bw 13 1023) rfl rfl (any_of HT_.out (by kernel_rfl)) (fun _ _ _ h => h) (Or.inl ⟨by rfl, ?_⟩) ?_ ?_
                  rotate_left
                  · intro w'
                    go_simp
                    with_reducible rfl
                  rotate_left
                  · simp only [Act.put, List.setIfInBounds_toArray, List.set_cons_zero, List.set_cons_succ, i64_w, i32_w]
                    rfl
                  refine one_ (i := 10) (N := some 26) (bw 13 2047) rfl rfl (one_of HT_.out (by kernel_rfl)) (by decide) (fun K hK => ?_)
                  refine goes_ Tryd.func45 (by kernel_rfl) rfl #[.int .i64 a0_3, .int .i64 1] (by rfl) rfl rfl (by (try simp only [List.map_toArray, List.map_cons, List.map_nil]); first | done | rfl | (simp only [List.length_drop, List.length_take]; rfl)) ?_
                  with_reducible refine (epactref17_decimals.calls k a0_3 1 t291 _ ?side725 A20.out).mono ?_
                  (case side725 => refine hG.below ?_; repeat (first | (with_reducible first | exact HB.out | apply below_alloc | apply pw_below_drewN | apply below_drew1 | refine below_set ?_ GE287.out) | exact HB.out))
                  rintro e w26 ⟨rfl, hb⟩
                  refine ⟨_, rfl, ?_⟩
                  have n0_ := Aside0.mk (blk_below (g := gb287) (o := .cells #[.int .i64 a0_0, .int .i64 a0_1, .int .i64 a0_2, .int .i64 a0_3, .int .i64 a0_4] 42 (0, 0)) (by (with_reducible repeat (first | refine blk_drewN ?_ _ | refine blk_drew ?_ | refine blk_alloc ?_ _)); exact BK287.out) hb)
                  have n1_ := Aside0.mk (below_step (by repeat (first | (with_reducible first | exact HB.out | apply below_alloc | apply pw_below_drewN | apply below_drew1 | refine below_set ?_ GE287.out) | exact HB.out)) hb)
                  clear BK287
                  clear HB
                  have BK287 := n0_
                  have HB := n1_
                  clear n0_ n1_
                  (try clear hb)
                  (try clear hb2)
                  (try clear hk)
                  (try clear hi)
                  refine hK.out _ _ ⟨(blk_cell BK287.out 0).trans rfl, (blk_cell BK287.out 1).trans rfl, (blk_cell BK287.out 2).trans rfl, (blk_cell BK287.out 3).trans rfl, (blk_cell BK287.out 4).trans rfl⟩ (fun hHeld => ?_)
                  clear hK K
                  refine norm_ (a' := ?_) ?_ ?_
                  rotate_left
                  · show Act.put _ (some 26) _ = _
                    simp only [Act.put, List.setIfInBounds_toArray, List.set_cons_zero, List.set_cons_succ, i64_w, i32_w]
                    rfl
                  refine pure_ (i := 11) (N := some 27) (v := ?_) (a' := ?_) (bw 13 4095) rfl rfl (any_of HT_.out (by kernel_rfl)) (fun _ _ _ h => h) (Or.inl ⟨by rfl, ?_⟩) ?_ ?_
                  rotate_left
                  · intro w'
                    go_simp
                    with_reducible rfl
                  rotate_left
                  · simp only [Act.put, List.setIfInBounds_toArray, List.set_cons_zero, List.set_cons_succ, i64_w, i32_w]
                    rfl
                  refine pure_ (i := 12) (N := some 4) (v := ?_) (a' := ?_) (bw 13 8191) rfl rfl (any_of HT_.out (by kernel_rfl)) (fun _ _ _ h => h) (Or.inl ⟨by rfl, ?_⟩) ?_ ?_
                  rotate_left
                  · intro w'
                    go_simp
                    with_reducible rfl
                  rotate_left
                  · simp only [Act.put, List.setIfInBounds_toArray, List.set_cons_zero, List.set_cons_succ, i64_w, i32_w]
                    rfl
                  refine done_ (done_of HT_.out (by kernel_rfl)) ?_
                  try go_wp2
                  go_meet
                  case rel => exact ⟨_, ((((((⟨#[77]⟩ : ByteArray) ++ t289) ++ (⟨#[46]⟩ : ByteArray)) ++ t290) ++ (⟨#[46]⟩ : ByteArray)) ++ t291), (by first | rfl | (simp; done) | (simp [*]; done) | (refine congrArg _ ?_; rw [Bool.eq_iff_iff]; simp; done)), H', ⟨by first | omega | exact Nat.le_refl _⟩, ⟨by (with_reducible repeat (first | refine blk_drewN ?_ _ | refine blk_drew ?_ | refine blk_alloc ?_ _)); exact BK287.out⟩, ⟨by repeat (first | (with_reducible first | exact HB.out | apply below_alloc | apply pw_below_drewN | apply below_drew1 | refine below_set ?_ GE287.out) | exact HB.out)⟩⟩
                · rw [if_neg c21] at H
                  exact absurd H (by simp)
              · rw [if_neg c19] at H
                exact absurd H (by simp)
            · rw [if_neg c18] at H
              exact absurd H (by simp)
          · rw [if_neg c16] at H
            exact absurd H (by simp)
        · rw [if_neg c15] at H
          exact absurd H (by simp)
      · rw [if_neg c14] at H
        have c14b0 : (a0_0 == 0) = false := beq_eq_false_iff_ne.mpr c14
        have c14b1 : (a0_0 != 0) = true := bne_iff_ne.mpr c14
        (first | rw [c14b0] | (simp only [i64_w, i32_w]; rw [c14b0]) | skip)
        have H' := Aside0.mk H
        clear H
        go_wp2
        go_meet
        case rel => exact ⟨_, (t289), (by first | rfl | (simp; done) | (simp [*]; done) | (refine congrArg _ ?_; rw [Bool.eq_iff_iff]; simp; done)), H', ⟨by first | omega | exact Nat.le_refl _⟩, ⟨by (with_reducible repeat (first | refine blk_drewN ?_ _ | refine blk_drew ?_ | refine blk_alloc ?_ _)); exact BK287.out⟩, ⟨by repeat (first | (with_reducible first | exact HB.out | apply below_alloc | apply pw_below_drewN | apply below_drew1 | refine below_set ?_ GE287.out) | exact HB.out)⟩⟩
    case rest =>
      clear HC5
      try clear c1
      try clear c2
      try clear p2
      try clear c3
      try clear c4
      try clear c14
      try clear c14b0
      try clear c14b1
      try clear c15
      try clear c15b0
      try clear c15b1
      try clear c15b2
      try clear c16
      try clear c16b0
      try clear c16b1
      try clear c16b2
      try clear c18
      try clear c18b0
      try clear c18b1
      try clear c18b2
      try clear c19
      try clear c19b0
      try clear c19b1
      try clear c19b2
      try clear c21
      try clear c21b0
      try clear c21b1
      try clear c21b2
      try clear hcz10_0
      try clear hcz10_1
      try clear hcz10_2
      try clear hcz10_3
      try clear hcz10_4
      try clear hcz13_0
      try clear hcz13_1
      try clear hcz13_2
      try clear hcz13_3
      try clear hcz13_4
      try clear hcz7_0
      try clear hcz7_1
      try clear hcz7_2
      try clear hcz7_3
      try clear hcz7_4
      try clear hfz10_0
      try clear hfz10_1
      try clear hfz10_2
      try clear hfz10_3
      try clear hfz10_4
      try clear hfz13_0
      try clear hfz13_1
      try clear hfz13_2
      try clear hfz13_3
      try clear hfz13_4
      try clear hfz7_0
      try clear hfz7_1
      try clear hfz7_2
      try clear hfz7_3
      try clear hfz7_4
      obtain ⟨kq, x4_4, rfl, HA, HJ4, BK287, HB⟩ := hcut
      cases kq with
      | zero => exact absurd HA.out (by simp [epactref17_Text.j0])
      | succ kj4 =>
        have H := HA.out
        clear HA
        simp only [epactref17_Text.j0] at H
        by_cases c27 : a0_0 = 1
        · rw [if_pos c27] at H
          have c27b0 : (a0_0 == 1) = true := beq_iff_eq.mpr c27
          have c27b1 : (a0_0 != 1) = false := bne_eq_false_iff_eq.mpr c27
          clear c27
          by_cases c28 : 1 + x4_4.size ≤ 9223372036854775807
          · rw [if_pos c28] at H
            have c28b0 := eq_true c28
            have c28b1 : decide (1 + x4_4.size ≤ 9223372036854775807) = true := decide_eq_true c28
            try have c28b2 : (9223372036854775807 < 1 + x4_4.size) = False := eq_false (Nat.not_lt.2 c28)
            by_cases c29 : a0_4 = 7200
            · rw [if_pos c29] at H
              have c29b0 : (a0_4 == 7200) = true := beq_iff_eq.mpr c29
              have c29b1 : (a0_4 != 7200) = false := bne_eq_false_iff_eq.mpr c29
              clear c29
              simp only [Option.some.injEq, Prod.mk.injEq] at H
              obtain ⟨rfl, rfl⟩ := H
              have hcz30_0 : wc.cell? ⟨gb287, 0, none⟩ = some (.int .i64 a0_0) := (blk_cell BK287.out 0).trans rfl
              have hcz30_1 : wc.cell? ⟨gb287, 1, none⟩ = some (.int .i64 a0_1) := (blk_cell BK287.out 1).trans rfl
              have hcz30_2 : wc.cell? ⟨gb287, 2, none⟩ = some (.int .i64 a0_2) := (blk_cell BK287.out 2).trans rfl
              have hcz30_3 : wc.cell? ⟨gb287, 3, none⟩ = some (.int .i64 a0_3) := (blk_cell BK287.out 3).trans rfl
              have hcz30_4 : wc.cell? ⟨gb287, 4, none⟩ = some (.int .i64 a0_4) := (blk_cell BK287.out 4).trans rfl
              have hfz30_0 := blk_frozen BK287.out 0
              have hfz30_1 := blk_frozen BK287.out 1
              have hfz30_2 := blk_frozen BK287.out 2
              have hfz30_3 := blk_frozen BK287.out 3
              have hfz30_4 := blk_frozen BK287.out 4
              go_wp2
              go_ret2
              exact ⟨by first | rfl | (simp [errW_none, errW_some] <;> rfl) | (simp [*, errW_none, errW_some] <;> rfl), by repeat (first | (with_reducible first | exact HB.out | apply below_alloc | apply pw_below_drewN | apply below_drew1 | refine below_set ?_ GE287.out) | exact HB.out)⟩
            · rw [if_neg c29] at H
              have c29b0 : (a0_4 == 7200) = false := beq_eq_false_iff_ne.mpr c29
              have c29b1 : (a0_4 != 7200) = true := bne_iff_ne.mpr c29
              replace H := Option.bind_eq_some_iff.mp H
              obtain ⟨⟨t292, t293⟩, A310, H⟩ := H
              replace H : (if 1 + x4_4.size + 1 ≤ 9223372036854775807 then (if 1 + x4_4.size + 1 + t292.size ≤ 9223372036854775807 then (some ((((⟨#[74]⟩ : ByteArray) ++ x4_4) ++ (⟨#[47]⟩ : ByteArray)) ++ t292, true)) else (none)) else (none)) = some (r1, r2) := H
              have A31 := Aside0.mk A310
              clear A310
              by_cases c32 : 1 + x4_4.size + 1 ≤ 9223372036854775807
              · rw [if_pos c32] at H
                have c32b0 := eq_true c32
                have c32b1 : decide (1 + x4_4.size + 1 ≤ 9223372036854775807) = true := decide_eq_true c32
                try have c32b2 : (9223372036854775807 < 1 + x4_4.size + 1) = False := eq_false (Nat.not_lt.2 c32)
                by_cases c33 : 1 + x4_4.size + 1 + t292.size ≤ 9223372036854775807
                · rw [if_pos c33] at H
                  have c33b0 := eq_true c33
                  have c33b1 : decide (1 + x4_4.size + 1 + t292.size ≤ 9223372036854775807) = true := decide_eq_true c33
                  try have c33b2 : (9223372036854775807 < 1 + x4_4.size + 1 + t292.size) = False := eq_false (Nat.not_lt.2 c33)
                  simp only [Option.some.injEq, Prod.mk.injEq] at H
                  obtain ⟨rfl, rfl⟩ := H
                  have hcz34_0 : wc.cell? ⟨gb287, 0, none⟩ = some (.int .i64 a0_0) := (blk_cell BK287.out 0).trans rfl
                  have hcz34_1 : wc.cell? ⟨gb287, 1, none⟩ = some (.int .i64 a0_1) := (blk_cell BK287.out 1).trans rfl
                  have hcz34_2 : wc.cell? ⟨gb287, 2, none⟩ = some (.int .i64 a0_2) := (blk_cell BK287.out 2).trans rfl
                  have hcz34_3 : wc.cell? ⟨gb287, 3, none⟩ = some (.int .i64 a0_3) := (blk_cell BK287.out 3).trans rfl
                  have hcz34_4 : wc.cell? ⟨gb287, 4, none⟩ = some (.int .i64 a0_4) := (blk_cell BK287.out 4).trans rfl
                  have hfz34_0 := blk_frozen BK287.out 0
                  have hfz34_1 := blk_frozen BK287.out 1
                  have hfz34_2 := blk_frozen BK287.out 2
                  have hfz34_3 := blk_frozen BK287.out 3
                  have hfz34_4 := blk_frozen BK287.out 4
                  go_wp2_with (first | ((with_reducible refine gate_callee (f := 23) rfl ?_); refine goesL_ (some 39) rfl rfl Tryd.func23 (by kernel_rfl) rfl #[.int .i64 a0_4] rfl (by (try simp only [List.map_toArray, List.map_cons, List.map_nil]); first | done | rfl | (simp only [List.length_drop, List.length_take]; rfl)) ?_; (with_reducible refine (epactref17_Clock.calls kj4 a0_4 t292 t293 _ ?side735 A31.out).mono ?_); (case side735 => refine hG.below ?_; repeat (first | (with_reducible first | exact HB.out | apply below_alloc | apply pw_below_drewN | apply below_drew1 | refine below_set ?_ GE287.out) | exact HB.out)); rintro e w36 ⟨rfl, hb⟩; refine ⟨_, rfl, ?_⟩; have n0_ := Aside0.mk (blk_below (g := gb287) (o := .cells #[.int .i64 a0_0, .int .i64 a0_1, .int .i64 a0_2, .int .i64 a0_3, .int .i64 a0_4] 42 (0, 0)) (by (with_reducible repeat (first | refine blk_drewN ?_ _ | refine blk_drew ?_ | refine blk_alloc ?_ _)); exact BK287.out) hb); have n1_ := Aside0.mk (below_step (by repeat (first | (with_reducible first | exact HB.out | apply below_alloc | apply pw_below_drewN | apply below_drew1 | refine below_set ?_ GE287.out) | exact HB.out)) hb); clear BK287; clear HB; have BK287 := n0_; have HB := n1_; clear n0_ n1_; (try clear hb)))
                  go_ret2
                  exact ⟨by first | rfl | (simp [errW_none, errW_some] <;> rfl) | (simp [*, errW_none, errW_some] <;> rfl), by repeat (first | (with_reducible first | exact HB.out | apply below_alloc | apply pw_below_drewN | apply below_drew1 | refine below_set ?_ GE287.out) | exact HB.out)⟩
                · rw [if_neg c33] at H
                  exact absurd H (by simp)
              · rw [if_neg c32] at H
                exact absurd H (by simp)
          · rw [if_neg c28] at H
            exact absurd H (by simp)
        · rw [if_neg c27] at H
          have c27b0 : (a0_0 == 1) = false := beq_eq_false_iff_ne.mpr c27
          have c27b1 : (a0_0 != 1) = true := bne_iff_ne.mpr c27
          by_cases c37 : a0_4 = 7200
          · rw [if_pos c37] at H
            have c37b0 : (a0_4 == 7200) = true := beq_iff_eq.mpr c37
            have c37b1 : (a0_4 != 7200) = false := bne_eq_false_iff_eq.mpr c37
            clear c37
            simp only [Option.some.injEq, Prod.mk.injEq] at H
            obtain ⟨rfl, rfl⟩ := H
            have hcz38_0 : wc.cell? ⟨gb287, 0, none⟩ = some (.int .i64 a0_0) := (blk_cell BK287.out 0).trans rfl
            have hcz38_1 : wc.cell? ⟨gb287, 1, none⟩ = some (.int .i64 a0_1) := (blk_cell BK287.out 1).trans rfl
            have hcz38_2 : wc.cell? ⟨gb287, 2, none⟩ = some (.int .i64 a0_2) := (blk_cell BK287.out 2).trans rfl
            have hcz38_3 : wc.cell? ⟨gb287, 3, none⟩ = some (.int .i64 a0_3) := (blk_cell BK287.out 3).trans rfl
            have hcz38_4 : wc.cell? ⟨gb287, 4, none⟩ = some (.int .i64 a0_4) := (blk_cell BK287.out 4).trans rfl
            have hfz38_0 := blk_frozen BK287.out 0
            have hfz38_1 := blk_frozen BK287.out 1
            have hfz38_2 := blk_frozen BK287.out 2
            have hfz38_3 := blk_frozen BK287.out 3
            have hfz38_4 := blk_frozen BK287.out 4
            go_wp2
            go_ret2
            exact ⟨by first | rfl | (simp [errW_none, errW_some] <;> rfl) | (simp [*, errW_none, errW_some] <;> rfl), by repeat (first | (with_reducible first | exact HB.out | apply below_alloc | apply pw_below_drewN | apply below_drew1 | refine below_set ?_ GE287.out) | exact HB.out)⟩
          · rw [if_neg c37] at H
            have c37b0 : (a0_4 == 7200) = false := beq_eq_false_iff_ne.mpr c37
            have c37b1 : (a0_4 != 7200) = true := bne_iff_ne.mpr c37
            replace H := Option.bind_eq_some_iff.mp H
            obtain ⟨⟨t294, t295⟩, A390, H⟩ := H
            replace H : (if x4_4.size + 1 ≤ 9223372036854775807 then (if x4_4.size + 1 + t294.size ≤ 9223372036854775807 then (some ((x4_4 ++ (⟨#[47]⟩ : ByteArray)) ++ t294, true)) else (none)) else (none)) = some (r1, r2) := H
            have A39 := Aside0.mk A390
            clear A390
            by_cases c40 : x4_4.size + 1 ≤ 9223372036854775807
            · rw [if_pos c40] at H
              have c40b0 := eq_true c40
              have c40b1 : decide (x4_4.size + 1 ≤ 9223372036854775807) = true := decide_eq_true c40
              try have c40b2 : (9223372036854775807 < x4_4.size + 1) = False := eq_false (Nat.not_lt.2 c40)
              by_cases c41 : x4_4.size + 1 + t294.size ≤ 9223372036854775807
              · rw [if_pos c41] at H
                have c41b0 := eq_true c41
                have c41b1 : decide (x4_4.size + 1 + t294.size ≤ 9223372036854775807) = true := decide_eq_true c41
                try have c41b2 : (9223372036854775807 < x4_4.size + 1 + t294.size) = False := eq_false (Nat.not_lt.2 c41)
                simp only [Option.some.injEq, Prod.mk.injEq] at H
                obtain ⟨rfl, rfl⟩ := H
                have hcz42_0 : wc.cell? ⟨gb287, 0, none⟩ = some (.int .i64 a0_0) := (blk_cell BK287.out 0).trans rfl
                have hcz42_1 : wc.cell? ⟨gb287, 1, none⟩ = some (.int .i64 a0_1) := (blk_cell BK287.out 1).trans rfl
                have hcz42_2 : wc.cell? ⟨gb287, 2, none⟩ = some (.int .i64 a0_2) := (blk_cell BK287.out 2).trans rfl
                have hcz42_3 : wc.cell? ⟨gb287, 3, none⟩ = some (.int .i64 a0_3) := (blk_cell BK287.out 3).trans rfl
                have hcz42_4 : wc.cell? ⟨gb287, 4, none⟩ = some (.int .i64 a0_4) := (blk_cell BK287.out 4).trans rfl
                have hfz42_0 := blk_frozen BK287.out 0
                have hfz42_1 := blk_frozen BK287.out 1
                have hfz42_2 := blk_frozen BK287.out 2
                have hfz42_3 := blk_frozen BK287.out 3
                have hfz42_4 := blk_frozen BK287.out 4
                go_wp2_with (first | ((with_reducible refine gate_callee (f := 23) rfl ?_); refine goesL_ (some 39) rfl rfl Tryd.func23 (by kernel_rfl) rfl #[.int .i64 a0_4] rfl (by (try simp only [List.map_toArray, List.map_cons, List.map_nil]); first | done | rfl | (simp only [List.length_drop, List.length_take]; rfl)) ?_; (with_reducible refine (epactref17_Clock.calls kj4 a0_4 t294 t295 _ ?side743 A39.out).mono ?_); (case side743 => refine hG.below ?_; repeat (first | (with_reducible first | exact HB.out | apply below_alloc | apply pw_below_drewN | apply below_drew1 | refine below_set ?_ GE287.out) | exact HB.out)); rintro e w44 ⟨rfl, hb⟩; refine ⟨_, rfl, ?_⟩; have n0_ := Aside0.mk (blk_below (g := gb287) (o := .cells #[.int .i64 a0_0, .int .i64 a0_1, .int .i64 a0_2, .int .i64 a0_3, .int .i64 a0_4] 42 (0, 0)) (by (with_reducible repeat (first | refine blk_drewN ?_ _ | refine blk_drew ?_ | refine blk_alloc ?_ _)); exact BK287.out) hb); have n1_ := Aside0.mk (below_step (by repeat (first | (with_reducible first | exact HB.out | apply below_alloc | apply pw_below_drewN | apply below_drew1 | refine below_set ?_ GE287.out) | exact HB.out)) hb); clear BK287; clear HB; have BK287 := n0_; have HB := n1_; clear n0_ n1_; (try clear hb)))
                go_ret2
                exact ⟨by first | rfl | (simp [errW_none, errW_some] <;> rfl) | (simp [*, errW_none, errW_some] <;> rfl), by repeat (first | (with_reducible first | exact HB.out | apply below_alloc | apply pw_below_drewN | apply below_drew1 | refine below_set ?_ GE287.out) | exact HB.out)⟩
              · rw [if_neg c41] at H
                exact absurd H (by simp)
            · rw [if_neg c40] at H
              exact absurd H (by simp)
  · replace c3 := Bool.eq_false_iff.mpr c3
    subst c3
    have H1 : (some ((⟨#[]⟩ : ByteArray), false)) = some (r1, r2) := by rw [if_neg (show ¬ (false = true) by decide)] at H; exact H
    clear H
    have H := H1
    clear H1
    simp only [Option.some.injEq, Prod.mk.injEq] at H
    obtain ⟨rfl, rfl⟩ := H
    go_enter Tryd.func27, Tryd.ntmps27
    go_wp2_with (first | ((with_reducible refine gate_dst (N := 1) rfl ?_); refine box_event ?hg (N := 1) ?hd (cs := #[.int .i64 a0_0, .int .i64 a0_1, .int .i64 a0_2, .int .i64 a0_3, .int .i64 a0_4]) (t := 42) ?hr ?_; (case hd => rfl); (case hg => rfl); (case hr => first | (go_simp; done) | (go_simp; rfl)); intro gb287 hg w45 hbox hb; have n0_ := Aside0.mk (below_step (by repeat (first | (with_reducible first | exact HB.out | apply ba | apply bn | apply bd) | exact HB.out)) hb); have n1_ := Aside0.mk (hbox); have n2_ := Aside0.mk ((by rw [hg]; exact (below_size (by repeat (first | (with_reducible first | exact HB.out | apply ba | apply bn | apply bd) | exact HB.out))) : w.heap.size ≤ gb287)); have n3_ := Aside0.mk ((by rw [hg]; exact (below_size (by repeat (first | (with_reducible first | exact HB.out | apply ba | apply bn | apply bd) | exact HB.out))) : w.heap.size ≤ gb287)); clear HB; have HB := n0_; have BK287 := n1_; have GW287 := n2_; have GE287 := n3_; clear n0_ n1_ n2_ n3_; clear hb hbox hg; have hcz46_0 : w45.cell? ⟨gb287, 0, none⟩ = some (.int .i64 a0_0) := (blk_cell BK287.out 0).trans rfl; have hcz46_1 : w45.cell? ⟨gb287, 1, none⟩ = some (.int .i64 a0_1) := (blk_cell BK287.out 1).trans rfl; have hcz46_2 : w45.cell? ⟨gb287, 2, none⟩ = some (.int .i64 a0_2) := (blk_cell BK287.out 2).trans rfl; have hcz46_3 : w45.cell? ⟨gb287, 3, none⟩ = some (.int .i64 a0_3) := (blk_cell BK287.out 3).trans rfl; have hcz46_4 : w45.cell? ⟨gb287, 4, none⟩ = some (.int .i64 a0_4) := (blk_cell BK287.out 4).trans rfl; have hfz46_0 := blk_frozen BK287.out 0; have hfz46_1 := blk_frozen BK287.out 1; have hfz46_2 := blk_frozen BK287.out 2; have hfz46_3 := blk_frozen BK287.out 3; have hfz46_4 := blk_frozen BK287.out 4) | ((with_reducible refine gate_callee (f := 35) rfl ?_); refine goesL_ (some 8) rfl rfl Tryd.func35 (by kernel_rfl) rfl #[.agg #[.int .i64 a0_0, .int .i64 a0_1, .int .i64 a0_2, .int .i64 a0_3, .int .i64 a0_4]] rfl (by (try simp only [List.map_toArray, List.map_cons, List.map_nil]); first | done | rfl | (simp only [List.length_drop, List.length_take]; rfl)) ?_; (with_reducible refine (epactref17_Right.calls k a0_0 a0_1 a0_2 a0_3 a0_4 false _ ?side747 A2.out).mono ?_); (case side747 => refine hG.below ?_; repeat (first | (with_reducible first | exact HB.out | apply below_alloc | apply pw_below_drewN | apply below_drew1 | refine below_set ?_ GE287.out) | exact HB.out)); rintro e w48 ⟨rfl, hb⟩; refine ⟨_, rfl, ?_⟩; have n0_ := Aside0.mk (blk_below (g := gb287) (o := .cells #[.int .i64 a0_0, .int .i64 a0_1, .int .i64 a0_2, .int .i64 a0_3, .int .i64 a0_4] 42 (0, 0)) (by (with_reducible repeat (first | refine blk_drewN ?_ _ | refine blk_drew ?_ | refine blk_alloc ?_ _)); exact BK287.out) hb); have n1_ := Aside0.mk (below_step (by repeat (first | (with_reducible first | exact HB.out | apply below_alloc | apply pw_below_drewN | apply below_drew1 | refine below_set ?_ GE287.out) | exact HB.out)) hb); clear BK287; clear HB; have BK287 := n0_; have HB := n1_; clear n0_ n1_; (try clear hb)))
    go_ret2
    exact ⟨by first | rfl | (simp [errW_none, errW_some] <;> rfl) | (simp [*, errW_none, errW_some] <;> rfl), by repeat (first | (with_reducible first | exact HB.out | apply below_alloc | apply pw_below_drewN | apply below_drew1 | refine below_set ?_ GE287.out) | exact HB.out)⟩

end Go.Proofs.YtghjemcbkackjaaDoor.P
