-- written by this project's program mkprint.py out of the translation; Lean checks it
import Derived.Test.YtghjemcbkackjaaDoorPx0
namespace Go.Proofs.YtghjemcbkackjaaDoor.P
open Go.Proofs.YtghjemcbkackjaaDoor.F
open Go.RowKit Go.Proofs.YtghjemcbkackjaaDoorW.PrintWords Go.Proofs.YtghjemcbkackjaaDoorW.PrintLast Go.Proofs.YtghjemcbkackjaaDoorW.PrintMore
attribute [local go_sem] max2_int min2_int max_two min_two max_three min_three max_four min_four   -- for this text's walks alone
set_option linter.unusedVariables false
set_option linter.unusedSimpArgs false

/-! ### epactref17_decimals: function 45 -/
def epactref17_decimals.f : Nat → Int → Int → Option (ByteArray)
  | 0, _, _ => none
  | k + 1, a0, a1 => (some (([(wrap64 (48 + (Int.tmod a0 10))) % 256] : List Int) : List Int)).bind fun y273 => (if a0 < 10 then (if a1 ≤ 1 then (some (strOfNums y273)) else ((epactref17_decimals.f k (wrap64 (Int.tdiv a0 10)) (wrap64 (a1 - 1))).bind fun t276 => (if t276.size + (strOfNums y273).size ≤ 9223372036854775807 then (some (t276 ++ (strOfNums y273))) else (none)))) else ((epactref17_decimals.f k (wrap64 (Int.tdiv a0 10)) (wrap64 (a1 - 1))).bind fun t277 => (if t277.size + (strOfNums y273).size ≤ 9223372036854775807 then (some (t277 ++ (strOfNums y273))) else (none))))
theorem epactref17_decimals.mono_l : ∀ k, (∀ y0 y1, LeO (epactref17_decimals.f k y0 y1) (epactref17_decimals.f (k + 1) y0 y1))
  | 0 => fun _ _ r h => by simp [epactref17_decimals.f] at h
  | k + 1 => by
    have ih0 := epactref17_decimals.mono_l k
    · intro y0 y1
      unfold epactref17_decimals.f
      repeat' first
      | (with_reducible exact ih0 _ _)
      | (with_reducible exact LeO.refl _)
      | (with_reducible exact LeO.none _)
      | (with_reducible refine LeO.ite ?_ ?_)
      | (with_reducible refine LeO.bind ?_ (fun _ => ?_))
      | exact ih0 _ _
      | exact LeO.none _
      | refine LeO.ite ?_ ?_
      | refine LeO.bind ?_ (fun _ => ?_)
theorem epactref17_decimals.mono : ∀ a0 a1 k, LeO (epactref17_decimals.f k a0 a1) (epactref17_decimals.f (k + 1) a0 a1) := by
  intro a0 a1 k
  have ih0 := epactref17_decimals.mono_l k
  exact ih0 a0 a1
set_option maxHeartbeats 8000000 in
set_option maxRecDepth 100000 in
theorem epactref17_decimals.calls (k : Nat) : ∀ (a0 : Int) (a1 : Int) (r : ByteArray) (w : World) (hG : GW w) (h : epactref17_decimals.f k a0 a1 = some r),
    Calls Tryd.prog 45 #[.int .i64 a0, .int .i64 a1] w fun e w' => e = .returned (.string r) ∧ Below w.heap.size w w' := by
  induction k using Nat.strongRecOn with
  | _ k ih =>
  intro a0 a1 r w hG h
  cases k with
  | zero => exact absurd h (by simp [epactref17_decimals.f])
  | succ k =>
  simp only [epactref17_decimals.f] at h
  have HB := Aside0.mk (Below.refl w.heap.size w)
  have H : ((some (([(wrap64 (48 + (Int.tmod a0 10))) % 256] : List Int) : List Int)).bind fun y273 => (if a0 < 10 then (if a1 ≤ 1 then (some (strOfNums y273)) else ((epactref17_decimals.f k (wrap64 (Int.tdiv a0 10)) (wrap64 (a1 - 1))).bind fun t276 => (if t276.size + (strOfNums y273).size ≤ 9223372036854775807 then (some (t276 ++ (strOfNums y273))) else (none)))) else ((epactref17_decimals.f k (wrap64 (Int.tdiv a0 10)) (wrap64 (a1 - 1))).bind fun t277 => (if t277.size + (strOfNums y273).size ≤ 9223372036854775807 then (some (t277 ++ (strOfNums y273))) else (none))))) = some r := h
  clear h
  obtain ⟨y273, hy273⟩ : ∃ y_ : List Int, y_ = (([(wrap64 (48 + (Int.tmod a0 10))) % 256] : List Int)) := ⟨_, rfl⟩
  replace H : (if a0 < 10 then (if a1 ≤ 1 then (some (strOfNums y273)) else ((epactref17_decimals.f k (wrap64 (Int.tdiv a0 10)) (wrap64 (a1 - 1))).bind fun t276 => (if t276.size + (strOfNums y273).size ≤ 9223372036854775807 then (some (t276 ++ (strOfNums y273))) else (none)))) else ((epactref17_decimals.f k (wrap64 (Int.tdiv a0 10)) (wrap64 (a1 - 1))).bind fun t277 => (if t277.size + (strOfNums y273).size ≤ 9223372036854775807 then (some (t277 ++ (strOfNums y273))) else (none)))) = some r := by first | (rw [hy273]; with_reducible exact H) | (have H2_ := (Option.bind_some _ _).symm.trans H; rw [hy273]; with_reducible exact H2_) | (have H2_ := (Option.bind_some _ _).symm.trans H; with_reducible exact H2_) | with_reducible exact H | (rw [hy273]; exact H) | exact H
  have Ny273 := Aside0.mk hy273
  clear hy273
  by_cases c3 : a0 < 10
  · rw [if_pos c3] at H
    have c3b0 : decide (a0 < 10) = true := decide_eq_true c3
    clear c3
    by_cases c4 : a1 ≤ 1
    · rw [if_pos c4] at H
      have c4b0 : decide (a1 ≤ 1) = true := decide_eq_true c4
      clear c4
      obtain rfl := Option.some.inj H
      go_enter Tryd.func45, Tryd.ntmps45
      go_wp2_with (first | ((with_reducible refine gate_dst (N := 10) rfl ?_); refine Kd.R_lit (Kd.int .u8) _ 5 ?hg (N := 10) ?hd (xs := ([(wrap64 (48 + (Int.tmod a0 10))) % 256] : List Int)) (inner := [.int .u8 ((wrap64 (48 + (Int.tmod a0 10))) % 256)]) (ok := fun _ => True) (okp := fun _ => True) ?hr ?hp (fun _ hk => hk) trivial (Below.refl _ _) (Nat.le_refl _) (by simp) ?_; (case hd => rfl); (case hg => rfl); (case hr => first | (go_simp; done) | (go_simp; rfl)); (case hp => exact (Reps.one (show Kd.M (Kd.int .u8) _ _ _ ((wrap64 (48 + (Int.tmod a0 10))) % 256) [.int .u8 ((wrap64 (48 + (Int.tmod a0 10))) % 256)] from rfl) (Reps.none _ _))); intro v274 w5 ho6 hb hg_ hnew_; clear hg_ hnew_; (first | rw [← Ny273.out] at ho6 | (simp only [Int.reduceToNat] at ho6; rw [← Ny273.out] at ho6)); have n0_ := Aside0.mk (Kd.R_lower ho6 (below_size (by repeat (first | (with_reducible first | exact HB.out | apply ba | apply bn | apply bd) | exact HB.out)))); have n1_ := Aside0.mk (below_step (by repeat (first | (with_reducible first | exact HB.out | apply ba | apply bn | apply bd) | exact HB.out)) hb); clear HB; have HO275 := n0_; have HB := n1_; clear n0_ n1_; clear hb ho6; have hcv7 := own_string (P := Tryd.prog) Tryd.underlying54 Tryd.underlying5 Tryd.underlying9 (Kd.own_of_R HO275.out)))
      go_ret
      exact ⟨by first | rfl | (simp [errW_none, errW_some] <;> rfl) | (simp [*, errW_none, errW_some] <;> rfl), by repeat (first | (with_reducible first | exact HB.out | apply ba | apply bn | apply bd) | exact HB.out)⟩
    · rw [if_neg c4] at H
      have c4b0 : decide (a1 ≤ 1) = false := decide_eq_false c4
      clear c4
      replace H := Option.bind_eq_some_iff.mp H
      obtain ⟨t276, A80, H⟩ := H
      replace H : (if t276.size + (strOfNums y273).size ≤ 9223372036854775807 then (some (t276 ++ (strOfNums y273))) else (none)) = some r := H
      have A8 := Aside0.mk A80
      clear A80
      by_cases c9 : t276.size + (strOfNums y273).size ≤ 9223372036854775807
      · rw [if_pos c9] at H
        have c9b0 := eq_true c9
        have c9b1 : decide (t276.size + (strOfNums y273).size ≤ 9223372036854775807) = true := decide_eq_true c9
        try have c9b2 : (9223372036854775807 < t276.size + (strOfNums y273).size) = False := eq_false (Nat.not_lt.2 c9)
        obtain rfl := Option.some.inj H
        go_enter Tryd.func45, Tryd.ntmps45
        go_wp2_with (first | ((with_reducible refine gate_dst (N := 10) rfl ?_); refine Kd.R_lit (Kd.int .u8) _ 5 ?hg (N := 10) ?hd (xs := ([(wrap64 (48 + (Int.tmod a0 10))) % 256] : List Int)) (inner := [.int .u8 ((wrap64 (48 + (Int.tmod a0 10))) % 256)]) (ok := fun _ => True) (okp := fun _ => True) ?hr ?hp (fun _ hk => hk) trivial (Below.refl _ _) (Nat.le_refl _) (by simp) ?_; (case hd => rfl); (case hg => rfl); (case hr => first | (go_simp; done) | (go_simp; rfl)); (case hp => exact (Reps.one (show Kd.M (Kd.int .u8) _ _ _ ((wrap64 (48 + (Int.tmod a0 10))) % 256) [.int .u8 ((wrap64 (48 + (Int.tmod a0 10))) % 256)] from rfl) (Reps.none _ _))); intro v274 w10 ho11 hb hg_ hnew_; clear hg_ hnew_; (first | rw [← Ny273.out] at ho11 | (simp only [Int.reduceToNat] at ho11; rw [← Ny273.out] at ho11)); have n0_ := Aside0.mk (Kd.R_lower ho11 (below_size (by repeat (first | (with_reducible first | exact HB.out | apply ba | apply bn | apply bd) | exact HB.out)))); have n1_ := Aside0.mk (below_step (by repeat (first | (with_reducible first | exact HB.out | apply ba | apply bn | apply bd) | exact HB.out)) hb); clear HB; have HO275 := n0_; have HB := n1_; clear n0_ n1_; clear hb ho11; have hcv12 := own_string (P := Tryd.prog) Tryd.underlying54 Tryd.underlying5 Tryd.underlying9 (Kd.own_of_R HO275.out)) | ((with_reducible refine gate_callee (f := 45) rfl ?_); refine goesL_ (some 23) rfl rfl Tryd.func45 (by kernel_rfl) rfl #[.int .i64 (wrap64 (Int.tdiv a0 10)), .int .i64 (wrap64 (a1 - 1))] rfl (by (try simp only [List.map_toArray, List.map_cons, List.map_nil]); first | done | rfl | (simp only [List.length_drop, List.length_take]; rfl)) ?_; (with_reducible refine (ih k (by omega) (wrap64 (Int.tdiv a0 10)) (wrap64 (a1 - 1)) t276 _ ?side713 A8.out).mono ?_); (case side713 => refine hG.below ?_; repeat (first | (with_reducible first | exact HB.out | apply ba | apply bn | apply bd) | exact HB.out)); rintro e w14 ⟨rfl, hb⟩; refine ⟨_, rfl, ?_⟩; have n0_ := Aside0.mk (Kd.R_below (by (with_reducible repeat (first | apply Kd.R_alloc | apply Kd.R_drewN | apply Kd.R_drew)); exact HO275.out) hb); have n1_ := Aside0.mk (below_step (by repeat (first | (with_reducible first | exact HB.out | apply ba | apply bn | apply bd) | exact HB.out)) hb); clear HO275; clear HB; have HO275 := n0_; have HB := n1_; clear n0_ n1_; (try clear hb)))
        go_ret
        exact ⟨by first | rfl | (simp [errW_none, errW_some] <;> rfl) | (simp [*, errW_none, errW_some] <;> rfl), by repeat (first | (with_reducible first | exact HB.out | apply ba | apply bn | apply bd) | exact HB.out)⟩
      · rw [if_neg c9] at H
        exact absurd H (by simp)
  · rw [if_neg c3] at H
    have c3b0 : decide (a0 < 10) = false := decide_eq_false c3
    clear c3
    replace H := Option.bind_eq_some_iff.mp H
    obtain ⟨t277, A150, H⟩ := H
    replace H : (if t277.size + (strOfNums y273).size ≤ 9223372036854775807 then (some (t277 ++ (strOfNums y273))) else (none)) = some r := H
    have A15 := Aside0.mk A150
    clear A150
    by_cases c16 : t277.size + (strOfNums y273).size ≤ 9223372036854775807
    · rw [if_pos c16] at H
      have c16b0 := eq_true c16
      have c16b1 : decide (t277.size + (strOfNums y273).size ≤ 9223372036854775807) = true := decide_eq_true c16
      try have c16b2 : (9223372036854775807 < t277.size + (strOfNums y273).size) = False := eq_false (Nat.not_lt.2 c16)
      obtain rfl := Option.some.inj H
      go_enter Tryd.func45, Tryd.ntmps45
      go_wp2_with (first | ((with_reducible refine gate_dst (N := 10) rfl ?_); refine Kd.R_lit (Kd.int .u8) _ 5 ?hg (N := 10) ?hd (xs := ([(wrap64 (48 + (Int.tmod a0 10))) % 256] : List Int)) (inner := [.int .u8 ((wrap64 (48 + (Int.tmod a0 10))) % 256)]) (ok := fun _ => True) (okp := fun _ => True) ?hr ?hp (fun _ hk => hk) trivial (Below.refl _ _) (Nat.le_refl _) (by simp) ?_; (case hd => rfl); (case hg => rfl); (case hr => first | (go_simp; done) | (go_simp; rfl)); (case hp => exact (Reps.one (show Kd.M (Kd.int .u8) _ _ _ ((wrap64 (48 + (Int.tmod a0 10))) % 256) [.int .u8 ((wrap64 (48 + (Int.tmod a0 10))) % 256)] from rfl) (Reps.none _ _))); intro v274 w17 ho18 hb hg_ hnew_; clear hg_ hnew_; (first | rw [← Ny273.out] at ho18 | (simp only [Int.reduceToNat] at ho18; rw [← Ny273.out] at ho18)); have n0_ := Aside0.mk (Kd.R_lower ho18 (below_size (by repeat (first | (with_reducible first | exact HB.out | apply ba | apply bn | apply bd) | exact HB.out)))); have n1_ := Aside0.mk (below_step (by repeat (first | (with_reducible first | exact HB.out | apply ba | apply bn | apply bd) | exact HB.out)) hb); clear HB; have HO275 := n0_; have HB := n1_; clear n0_ n1_; clear hb ho18; have hcv19 := own_string (P := Tryd.prog) Tryd.underlying54 Tryd.underlying5 Tryd.underlying9 (Kd.own_of_R HO275.out)) | ((with_reducible refine gate_callee (f := 45) rfl ?_); refine goesL_ (some 23) rfl rfl Tryd.func45 (by kernel_rfl) rfl #[.int .i64 (wrap64 (Int.tdiv a0 10)), .int .i64 (wrap64 (a1 - 1))] rfl (by (try simp only [List.map_toArray, List.map_cons, List.map_nil]); first | done | rfl | (simp only [List.length_drop, List.length_take]; rfl)) ?_; (with_reducible refine (ih k (by omega) (wrap64 (Int.tdiv a0 10)) (wrap64 (a1 - 1)) t277 _ ?side720 A15.out).mono ?_); (case side720 => refine hG.below ?_; repeat (first | (with_reducible first | exact HB.out | apply ba | apply bn | apply bd) | exact HB.out)); rintro e w21 ⟨rfl, hb⟩; refine ⟨_, rfl, ?_⟩; have n0_ := Aside0.mk (Kd.R_below (by (with_reducible repeat (first | apply Kd.R_alloc | apply Kd.R_drewN | apply Kd.R_drew)); exact HO275.out) hb); have n1_ := Aside0.mk (below_step (by repeat (first | (with_reducible first | exact HB.out | apply ba | apply bn | apply bd) | exact HB.out)) hb); clear HO275; clear HB; have HO275 := n0_; have HB := n1_; clear n0_ n1_; (try clear hb)))
      go_ret
      exact ⟨by first | rfl | (simp [errW_none, errW_some] <;> rfl) | (simp [*, errW_none, errW_some] <;> rfl), by repeat (first | (with_reducible first | exact HB.out | apply ba | apply bn | apply bd) | exact HB.out)⟩
    · rw [if_neg c16] at H
      exact absurd H (by simp)

/-! ### epactref17_Clock: function 23 -/
mutual
def epactref17_Clock.j0 : Nat → Int → Bool → Option (ByteArray × Bool)
  | 0, _, _ => none
  | k + 1, x0, x10 => if x10 = true then (some ((⟨#[]⟩ : ByteArray), false)) else (if x0 < 0 then (epactref17_Clock.j1 k (wrap64 (-x0)) (⟨#[45]⟩ : ByteArray)) else (epactref17_Clock.j1 k x0 (⟨#[]⟩ : ByteArray)))
def epactref17_Clock.j1 : Nat → Int → ByteArray → Option (ByteArray × Bool)
  | 0, _, _ => none
  | k + 1, x0, x4 => (epactref17_decimals.f k (wrap64 (Int.tdiv x0 3600)) 1).bind fun t278 => (if x4.size + t278.size ≤ 9223372036854775807 then (if (Int.tmod x0 3600) = 0 then (if (Int.tmod x0 60) = 0 then (some (x4 ++ t278, true)) else (if x4.size + t278.size + 1 ≤ 9223372036854775807 then ((epactref17_decimals.f k (Int.tmod x0 60) 2).bind fun t279 => (if x4.size + t278.size + 1 + t279.size ≤ 9223372036854775807 then (some (((x4 ++ t278) ++ (⟨#[58]⟩ : ByteArray)) ++ t279, true)) else (none))) else (none))) else (if x4.size + t278.size + 1 ≤ 9223372036854775807 then ((epactref17_decimals.f k (Int.tmod (wrap64 (Int.tdiv x0 60)) 60) 2).bind fun t280 => (if x4.size + t278.size + 1 + t280.size ≤ 9223372036854775807 then (if (Int.tmod x0 60) = 0 then (some (((x4 ++ t278) ++ (⟨#[58]⟩ : ByteArray)) ++ t280, true)) else (if x4.size + t278.size + 1 + t280.size + 1 ≤ 9223372036854775807 then ((epactref17_decimals.f k (Int.tmod x0 60) 2).bind fun t281 => (if x4.size + t278.size + 1 + t280.size + 1 + t281.size ≤ 9223372036854775807 then (some (((((x4 ++ t278) ++ (⟨#[58]⟩ : ByteArray)) ++ t280) ++ (⟨#[58]⟩ : ByteArray)) ++ t281, true)) else (none))) else (none))) else (none))) else (none))) else (none))
end
def epactref17_Clock.f (k : Nat) (a0 : Int) : Option (ByteArray × Bool) := if a0 < (-604799) then (epactref17_Clock.j0 k a0 true) else (epactref17_Clock.j0 k a0 (decide (a0 > 604799)))
theorem epactref17_Clock.mono_l : ∀ k, (∀ y0 y1, LeO (epactref17_Clock.j0 k y0 y1) (epactref17_Clock.j0 (k + 1) y0 y1)) ∧ (∀ y0 y1, LeO (epactref17_Clock.j1 k y0 y1) (epactref17_Clock.j1 (k + 1) y0 y1))
  | 0 => ⟨fun _ _ r h => by simp [epactref17_Clock.j0] at h, fun _ _ r h => by simp [epactref17_Clock.j1] at h⟩
  | k + 1 => by
    obtain ⟨ih0, ih1⟩ := epactref17_Clock.mono_l k
    refine ⟨?_, ?_⟩
    · intro y0 y1
      unfold epactref17_Clock.j0
      repeat' first
      | (with_reducible exact ih0 _ _)
      | (with_reducible exact ih1 _ _)
      | (with_reducible exact epactref17_decimals.mono _ _ _)
      | (with_reducible exact LeO.refl _)
      | (with_reducible exact LeO.none _)
      | (with_reducible refine LeO.ite ?_ ?_)
      | (with_reducible refine LeO.bind ?_ (fun _ => ?_))
      | exact ih0 _ _
      | exact ih1 _ _
      | exact epactref17_decimals.mono _ _ _
      | exact LeO.none _
      | refine LeO.ite ?_ ?_
      | refine LeO.bind ?_ (fun _ => ?_)
    · intro y0 y1
      unfold epactref17_Clock.j1
      repeat' first
      | (with_reducible exact ih0 _ _)
      | (with_reducible exact ih1 _ _)
      | (with_reducible exact epactref17_decimals.mono _ _ _)
      | (with_reducible exact LeO.refl _)
      | (with_reducible exact LeO.none _)
      | (with_reducible refine LeO.ite ?_ ?_)
      | (with_reducible refine LeO.bind ?_ (fun _ => ?_))
      | exact ih0 _ _
      | exact ih1 _ _
      | exact epactref17_decimals.mono _ _ _
      | exact LeO.none _
      | refine LeO.ite ?_ ?_
      | refine LeO.bind ?_ (fun _ => ?_)
theorem epactref17_Clock.mono : ∀ a0 k, LeO (epactref17_Clock.f k a0) (epactref17_Clock.f (k + 1) a0) := by
  intro a0 k
  obtain ⟨ih0, ih1⟩ := epactref17_Clock.mono_l k
  unfold epactref17_Clock.f
  repeat' first
      | (with_reducible exact ih0 _ _)
      | (with_reducible exact ih1 _ _)
      | (with_reducible exact epactref17_decimals.mono _ _ _)
      | (with_reducible exact LeO.refl _)
      | (with_reducible exact LeO.none _)
      | (with_reducible refine LeO.ite ?_ ?_)
      | (with_reducible refine LeO.bind ?_ (fun _ => ?_))
      | exact ih0 _ _
      | exact ih1 _ _
      | exact epactref17_decimals.mono _ _ _
      | exact LeO.none _
      | refine LeO.ite ?_ ?_
      | refine LeO.bind ?_ (fun _ => ?_)
set_option maxHeartbeats 8000000 in
set_option maxRecDepth 100000 in
theorem epactref17_Clock.calls (k : Nat) (a0 : Int) (r1 : ByteArray) (r2 : Bool) (w : World) (hG : GW w) (h : epactref17_Clock.f k a0 = some (r1, r2)) :
    Calls Tryd.prog 23 #[.int .i64 a0] w fun e w' => e = .returned (.tuple #[.string r1, .bool r2]) ∧ Below w.heap.size w w' := by
  have HB := Aside0.mk (Below.refl w.heap.size w)
  have H : (if a0 < (-604799) then (epactref17_Clock.j0 k a0 true) else (epactref17_Clock.j0 k a0 (decide (a0 > 604799)))) = some (r1, r2) := h
  clear h
  have HC2 := Aside0.mk H
  clear H
  go_enter Tryd.func23, Tryd.ntmps23
  go_upto_region 1 with (fail)
  go_cut [10] (fun v10 wc => ∃ (kq : Nat) (x10_1 : Bool), v10 = .bool x10_1 ∧ Aside0 (epactref17_Clock.j0 kq a0 x10_1 = some (r1, r2)) ∧ Aside0 (kq ≤ k) ∧ Aside0 (Below w.heap.size w wc))
  case first =>
    have H := HC2.out
    clear HC2
    by_cases c3 : a0 < (-604799)
    · rw [if_pos c3] at H
      have c3b0 : decide (a0 < (-604799)) = true := decide_eq_true c3
      clear c3
      (first | rw [c3b0] | (simp only [i64_w, i32_w]; rw [c3b0]) | skip)
      have H' := Aside0.mk H
      clear H
      go_wp2
      go_meet
      case rel => exact ⟨_, (true), (by first | rfl | (simp; done) | (simp [*]; done) | (refine congrArg _ ?_; rw [Bool.eq_iff_iff]; simp; done)), H', ⟨by first | omega | exact Nat.le_refl _⟩, ⟨by repeat (first | (with_reducible first | exact HB.out | apply ba | apply bn | apply bd) | exact HB.out)⟩⟩
    · rw [if_neg c3] at H
      have c3b0 : decide (a0 < (-604799)) = false := decide_eq_false c3
      clear c3
      (first | rw [c3b0] | (simp only [i64_w, i32_w]; rw [c3b0]) | skip)
      have H' := Aside0.mk H
      clear H
      go_wp2
      go_meet
      case rel => exact ⟨_, (decide (a0 > 604799)), (by first | rfl | (simp; done) | (simp [*]; done) | (refine congrArg _ ?_; rw [Bool.eq_iff_iff]; simp; done)), H', ⟨by first | omega | exact Nat.le_refl _⟩, ⟨by repeat (first | (with_reducible first | exact HB.out | apply ba | apply bn | apply bd) | exact HB.out)⟩⟩
  case rest =>
    clear HC2
    try clear c2
    try clear p2
    try clear c3
    try clear c3b0
    obtain ⟨kq, x10_1, rfl, HA, HJ1, HB⟩ := hcut
    cases kq with
    | zero => exact absurd HA.out (by simp [epactref17_Clock.j0])
    | succ kj1 =>
      have H := HA.out
      clear HA
      simp only [epactref17_Clock.j0] at H
      by_cases c4 : x10_1 = true
      · subst c4
        have H1 : (some ((⟨#[]⟩ : ByteArray), false)) = some (r1, r2) := by rw [if_pos rfl] at H; exact H
        clear H
        have H := H1
        clear H1
        simp only [Option.some.injEq, Prod.mk.injEq] at H
        obtain ⟨rfl, rfl⟩ := H
        go_wp2
        go_ret2
        exact ⟨by first | rfl | (simp [errW_none, errW_some] <;> rfl) | (simp [*, errW_none, errW_some] <;> rfl), by repeat (first | (with_reducible first | exact HB.out | apply ba | apply bn | apply bd) | exact HB.out)⟩
      · replace c4 := Bool.eq_false_iff.mpr c4
        subst c4
        have H1 : (if a0 < 0 then (epactref17_Clock.j1 kj1 (wrap64 (-a0)) (⟨#[45]⟩ : ByteArray)) else (epactref17_Clock.j1 kj1 a0 (⟨#[]⟩ : ByteArray))) = some (r1, r2) := by rw [if_neg (show ¬ (false = true) by decide)] at H; exact H
        clear H
        have H := H1
        clear H1
        have HC5 := Aside0.mk H
        clear H
        go_upto_if 12 with (fail)
        go_cut [0, 4] (fun v0 v4 wc => ∃ (kq : Nat) (x0_4 : Int) (x4_4 : ByteArray), v0 = .int .i64 x0_4 ∧ v4 = .string x4_4 ∧ Aside0 (epactref17_Clock.j1 kq x0_4 x4_4 = some (r1, r2)) ∧ Aside0 (kq ≤ kj1) ∧ Aside0 (Below w.heap.size w wc))
        case first =>
          have H := HC5.out
          clear HC5
          by_cases c6 : a0 < 0
          · rw [if_pos c6] at H
            have c6b0 : decide (a0 < 0) = true := decide_eq_true c6
            clear c6
            (first | rw [c6b0] | (simp only [i64_w, i32_w]; rw [c6b0]) | skip)
            have H' := Aside0.mk H
            clear H
            go_wp2
            go_meet
            case rel => exact ⟨_, (wrap64 (-a0)), ((⟨#[45]⟩ : ByteArray)), (by first | rfl | (simp; done) | (simp [*]; done) | (refine congrArg _ ?_; rw [Bool.eq_iff_iff]; simp; done)), (by first | rfl | (simp; done) | (simp [*]; done) | (refine congrArg _ ?_; rw [Bool.eq_iff_iff]; simp; done)), H', ⟨by have := HJ1.out; first | omega | exact Nat.le_refl _⟩, ⟨by repeat (first | (with_reducible first | exact HB.out | apply ba | apply bn | apply bd) | exact HB.out)⟩⟩
          · rw [if_neg c6] at H
            have c6b0 : decide (a0 < 0) = false := decide_eq_false c6
            clear c6
            (first | rw [c6b0] | (simp only [i64_w, i32_w]; rw [c6b0]) | skip)
            have H' := Aside0.mk H
            clear H
            go_wp2
            go_meet
            case rel => exact ⟨_, (a0), ((⟨#[]⟩ : ByteArray)), (by first | rfl | (simp; done) | (simp [*]; done) | (refine congrArg _ ?_; rw [Bool.eq_iff_iff]; simp; done)), (by first | rfl | (simp; done) | (simp [*]; done) | (refine congrArg _ ?_; rw [Bool.eq_iff_iff]; simp; done)), H', ⟨by have := HJ1.out; first | omega | exact Nat.le_refl _⟩, ⟨by repeat (first | (with_reducible first | exact HB.out | apply ba | apply bn | apply bd) | exact HB.out)⟩⟩
        case rest =>
          clear HC5
          try clear c2
          try clear p2
          try clear c3
          try clear c3b0
          try clear c4
          try clear c6
          try clear c6b0
          try clear p6
          try clear p2
          obtain ⟨kq, x0_4, x4_4, rfl, rfl, HA, HJ4, HB⟩ := hcut
          cases kq with
          | zero => exact absurd HA.out (by simp [epactref17_Clock.j1])
          | succ kj4 =>
            have H := HA.out
            clear HA
            simp only [epactref17_Clock.j1] at H
            replace H := Option.bind_eq_some_iff.mp H
            obtain ⟨t278, A70, H⟩ := H
            replace H : (if x4_4.size + t278.size ≤ 9223372036854775807 then (if (Int.tmod x0_4 3600) = 0 then (if (Int.tmod x0_4 60) = 0 then (some (x4_4 ++ t278, true)) else (if x4_4.size + t278.size + 1 ≤ 9223372036854775807 then ((epactref17_decimals.f kj4 (Int.tmod x0_4 60) 2).bind fun t279 => (if x4_4.size + t278.size + 1 + t279.size ≤ 9223372036854775807 then (some (((x4_4 ++ t278) ++ (⟨#[58]⟩ : ByteArray)) ++ t279, true)) else (none))) else (none))) else (if x4_4.size + t278.size + 1 ≤ 9223372036854775807 then ((epactref17_decimals.f kj4 (Int.tmod (wrap64 (Int.tdiv x0_4 60)) 60) 2).bind fun t280 => (if x4_4.size + t278.size + 1 + t280.size ≤ 9223372036854775807 then (if (Int.tmod x0_4 60) = 0 then (some (((x4_4 ++ t278) ++ (⟨#[58]⟩ : ByteArray)) ++ t280, true)) else (if x4_4.size + t278.size + 1 + t280.size + 1 ≤ 9223372036854775807 then ((epactref17_decimals.f kj4 (Int.tmod x0_4 60) 2).bind fun t281 => (if x4_4.size + t278.size + 1 + t280.size + 1 + t281.size ≤ 9223372036854775807 then (some (((((x4_4 ++ t278) ++ (⟨#[58]⟩ : ByteArray)) ++ t280) ++ (⟨#[58]⟩ : ByteArray)) ++ t281, true)) else (none))) else (none))) else (none))) else (none))) else (none)) = some (r1, r2) := H
            have A7 := Aside0.mk A70
            clear A70
            by_cases c8 : x4_4.size + t278.size ≤ 9223372036854775807
            · rw [if_pos c8] at H
              have c8b0 := eq_true c8
              have c8b1 : decide (x4_4.size + t278.size ≤ 9223372036854775807) = true := decide_eq_true c8
              try have c8b2 : (9223372036854775807 < x4_4.size + t278.size) = False := eq_false (Nat.not_lt.2 c8)
              by_cases c9 : (Int.tmod x0_4 3600) = 0
              · rw [if_pos c9] at H
                have c9b0 : ((Int.tmod x0_4 3600) == 0) = true := beq_iff_eq.mpr c9
                have c9b1 : ((Int.tmod x0_4 3600) != 0) = false := bne_eq_false_iff_eq.mpr c9
                clear c9
                by_cases c10 : (Int.tmod x0_4 60) = 0
                · rw [if_pos c10] at H
                  have c10b0 : ((Int.tmod x0_4 60) == 0) = true := beq_iff_eq.mpr c10
                  have c10b1 : ((Int.tmod x0_4 60) != 0) = false := bne_eq_false_iff_eq.mpr c10
                  clear c10
                  simp only [Option.some.injEq, Prod.mk.injEq] at H
                  obtain ⟨rfl, rfl⟩ := H
                  go_wp2_with (first | ((with_reducible refine gate_callee (f := 45) rfl ?_); refine goesL_ (some 18) rfl rfl Tryd.func45 (by kernel_rfl) rfl #[.int .i64 (wrap64 (Int.tdiv x0_4 3600)), .int .i64 1] rfl (by (try simp only [List.map_toArray, List.map_cons, List.map_nil]); first | done | rfl | (simp only [List.length_drop, List.length_take]; rfl)) ?_; (with_reducible refine (epactref17_decimals.calls kj4 (wrap64 (Int.tdiv x0_4 3600)) 1 t278 _ ?side711 A7.out).mono ?_); (case side711 => refine hG.below ?_; repeat (first | (with_reducible first | exact HB.out | apply ba | apply bn | apply bd) | exact HB.out)); rintro e w12 ⟨rfl, hb⟩; refine ⟨_, rfl, ?_⟩; have n0_ := Aside0.mk (below_step (by repeat (first | (with_reducible first | exact HB.out | apply ba | apply bn | apply bd) | exact HB.out)) hb); clear HB; have HB := n0_; clear n0_; (try clear hb)))
                  go_ret2
                  exact ⟨by first | rfl | (simp [errW_none, errW_some] <;> rfl) | (simp [*, errW_none, errW_some] <;> rfl), by repeat (first | (with_reducible first | exact HB.out | apply ba | apply bn | apply bd) | exact HB.out)⟩
                · rw [if_neg c10] at H
                  have c10b0 : ((Int.tmod x0_4 60) == 0) = false := beq_eq_false_iff_ne.mpr c10
                  have c10b1 : ((Int.tmod x0_4 60) != 0) = true := bne_iff_ne.mpr c10
                  by_cases c13 : x4_4.size + t278.size + 1 ≤ 9223372036854775807
                  · rw [if_pos c13] at H
                    have c13b0 := eq_true c13
                    have c13b1 : decide (x4_4.size + t278.size + 1 ≤ 9223372036854775807) = true := decide_eq_true c13
                    try have c13b2 : (9223372036854775807 < x4_4.size + t278.size + 1) = False := eq_false (Nat.not_lt.2 c13)
                    replace H := Option.bind_eq_some_iff.mp H
                    obtain ⟨t279, A140, H⟩ := H
                    replace H : (if x4_4.size + t278.size + 1 + t279.size ≤ 9223372036854775807 then (some (((x4_4 ++ t278) ++ (⟨#[58]⟩ : ByteArray)) ++ t279, true)) else (none)) = some (r1, r2) := H
                    have A14 := Aside0.mk A140
                    clear A140
                    by_cases c15 : x4_4.size + t278.size + 1 + t279.size ≤ 9223372036854775807
                    · rw [if_pos c15] at H
                      have c15b0 := eq_true c15
                      have c15b1 : decide (x4_4.size + t278.size + 1 + t279.size ≤ 9223372036854775807) = true := decide_eq_true c15
                      try have c15b2 : (9223372036854775807 < x4_4.size + t278.size + 1 + t279.size) = False := eq_false (Nat.not_lt.2 c15)
                      simp only [Option.some.injEq, Prod.mk.injEq] at H
                      obtain ⟨rfl, rfl⟩ := H
                      go_wp2_with (first | ((with_reducible refine gate_callee (f := 45) rfl ?_); refine goesL_ (some 18) rfl rfl Tryd.func45 (by kernel_rfl) rfl #[.int .i64 (wrap64 (Int.tdiv x0_4 3600)), .int .i64 1] rfl (by (try simp only [List.map_toArray, List.map_cons, List.map_nil]); first | done | rfl | (simp only [List.length_drop, List.length_take]; rfl)) ?_; (with_reducible refine (epactref17_decimals.calls kj4 (wrap64 (Int.tdiv x0_4 3600)) 1 t278 _ ?side716 A7.out).mono ?_); (case side716 => refine hG.below ?_; repeat (first | (with_reducible first | exact HB.out | apply ba | apply bn | apply bd) | exact HB.out)); rintro e w17 ⟨rfl, hb⟩; refine ⟨_, rfl, ?_⟩; have n0_ := Aside0.mk (below_step (by repeat (first | (with_reducible first | exact HB.out | apply ba | apply bn | apply bd) | exact HB.out)) hb); clear HB; have HB := n0_; clear n0_; (try clear hb)) | ((with_reducible refine gate_callee (f := 45) rfl ?_); refine goesL_ (some 37) rfl rfl Tryd.func45 (by kernel_rfl) rfl #[.int .i64 (Int.tmod x0_4 60), .int .i64 2] rfl (by (try simp only [List.map_toArray, List.map_cons, List.map_nil]); first | done | rfl | (simp only [List.length_drop, List.length_take]; rfl)) ?_; (with_reducible refine (epactref17_decimals.calls kj4 (Int.tmod x0_4 60) 2 t279 _ ?side718 A14.out).mono ?_); (case side718 => refine hG.below ?_; repeat (first | (with_reducible first | exact HB.out | apply ba | apply bn | apply bd) | exact HB.out)); rintro e w19 ⟨rfl, hb⟩; refine ⟨_, rfl, ?_⟩; have n0_ := Aside0.mk (below_step (by repeat (first | (with_reducible first | exact HB.out | apply ba | apply bn | apply bd) | exact HB.out)) hb); clear HB; have HB := n0_; clear n0_; (try clear hb)))
                      go_ret2
                      exact ⟨by first | rfl | (simp [errW_none, errW_some] <;> rfl) | (simp [*, errW_none, errW_some] <;> rfl), by repeat (first | (with_reducible first | exact HB.out | apply ba | apply bn | apply bd) | exact HB.out)⟩
                    · rw [if_neg c15] at H
                      exact absurd H (by simp)
                  · rw [if_neg c13] at H
                    exact absurd H (by simp)
              · rw [if_neg c9] at H
                have c9b0 : ((Int.tmod x0_4 3600) == 0) = false := beq_eq_false_iff_ne.mpr c9
                have c9b1 : ((Int.tmod x0_4 3600) != 0) = true := bne_iff_ne.mpr c9
                by_cases c20 : x4_4.size + t278.size + 1 ≤ 9223372036854775807
                · rw [if_pos c20] at H
                  have c20b0 := eq_true c20
                  have c20b1 : decide (x4_4.size + t278.size + 1 ≤ 9223372036854775807) = true := decide_eq_true c20
                  try have c20b2 : (9223372036854775807 < x4_4.size + t278.size + 1) = False := eq_false (Nat.not_lt.2 c20)
                  replace H := Option.bind_eq_some_iff.mp H
                  obtain ⟨t280, A210, H⟩ := H
                  replace H : (if x4_4.size + t278.size + 1 + t280.size ≤ 9223372036854775807 then (if (Int.tmod x0_4 60) = 0 then (some (((x4_4 ++ t278) ++ (⟨#[58]⟩ : ByteArray)) ++ t280, true)) else (if x4_4.size + t278.size + 1 + t280.size + 1 ≤ 9223372036854775807 then ((epactref17_decimals.f kj4 (Int.tmod x0_4 60) 2).bind fun t281 => (if x4_4.size + t278.size + 1 + t280.size + 1 + t281.size ≤ 9223372036854775807 then (some (((((x4_4 ++ t278) ++ (⟨#[58]⟩ : ByteArray)) ++ t280) ++ (⟨#[58]⟩ : ByteArray)) ++ t281, true)) else (none))) else (none))) else (none)) = some (r1, r2) := H
                  have A21 := Aside0.mk A210
                  clear A210
                  by_cases c22 : x4_4.size + t278.size + 1 + t280.size ≤ 9223372036854775807
                  · rw [if_pos c22] at H
                    have c22b0 := eq_true c22
                    have c22b1 : decide (x4_4.size + t278.size + 1 + t280.size ≤ 9223372036854775807) = true := decide_eq_true c22
                    try have c22b2 : (9223372036854775807 < x4_4.size + t278.size + 1 + t280.size) = False := eq_false (Nat.not_lt.2 c22)
                    by_cases c23 : (Int.tmod x0_4 60) = 0
                    · rw [if_pos c23] at H
                      have c23b0 : ((Int.tmod x0_4 60) == 0) = true := beq_iff_eq.mpr c23
                      have c23b1 : ((Int.tmod x0_4 60) != 0) = false := bne_eq_false_iff_eq.mpr c23
                      clear c23
                      simp only [Option.some.injEq, Prod.mk.injEq] at H
                      obtain ⟨rfl, rfl⟩ := H
                      go_wp2_with (first | ((with_reducible refine gate_callee (f := 45) rfl ?_); refine goesL_ (some 18) rfl rfl Tryd.func45 (by kernel_rfl) rfl #[.int .i64 (wrap64 (Int.tdiv x0_4 3600)), .int .i64 1] rfl (by (try simp only [List.map_toArray, List.map_cons, List.map_nil]); first | done | rfl | (simp only [List.length_drop, List.length_take]; rfl)) ?_; (with_reducible refine (epactref17_decimals.calls kj4 (wrap64 (Int.tdiv x0_4 3600)) 1 t278 _ ?side724 A7.out).mono ?_); (case side724 => refine hG.below ?_; repeat (first | (with_reducible first | exact HB.out | apply ba | apply bn | apply bd) | exact HB.out)); rintro e w25 ⟨rfl, hb⟩; refine ⟨_, rfl, ?_⟩; have n0_ := Aside0.mk (below_step (by repeat (first | (with_reducible first | exact HB.out | apply ba | apply bn | apply bd) | exact HB.out)) hb); clear HB; have HB := n0_; clear n0_; (try clear hb)) | ((with_reducible refine gate_callee (f := 45) rfl ?_); refine goesL_ (some 28) rfl rfl Tryd.func45 (by kernel_rfl) rfl #[.int .i64 (Int.tmod (wrap64 (Int.tdiv x0_4 60)) 60), .int .i64 2] rfl (by (try simp only [List.map_toArray, List.map_cons, List.map_nil]); first | done | rfl | (simp only [List.length_drop, List.length_take]; rfl)) ?_; (with_reducible refine (epactref17_decimals.calls kj4 (Int.tmod (wrap64 (Int.tdiv x0_4 60)) 60) 2 t280 _ ?side726 A21.out).mono ?_); (case side726 => refine hG.below ?_; repeat (first | (with_reducible first | exact HB.out | apply ba | apply bn | apply bd) | exact HB.out)); rintro e w27 ⟨rfl, hb⟩; refine ⟨_, rfl, ?_⟩; have n0_ := Aside0.mk (below_step (by repeat (first | (with_reducible first | exact HB.out | apply ba | apply bn | apply bd) | exact HB.out)) hb); clear HB; have HB := n0_; clear n0_; (try clear hb)))
                      go_ret2
                      exact ⟨by first | rfl | (simp [errW_none, errW_some] <;> rfl) | (simp [*, errW_none, errW_some] <;> rfl), by repeat (first | (with_reducible first | exact HB.out | apply ba | apply bn | apply bd) | exact HB.out)⟩
                    · rw [if_neg c23] at H
                      have c23b0 : ((Int.tmod x0_4 60) == 0) = false := beq_eq_false_iff_ne.mpr c23
                      have c23b1 : ((Int.tmod x0_4 60) != 0) = true := bne_iff_ne.mpr c23
                      by_cases c28 : x4_4.size + t278.size + 1 + t280.size + 1 ≤ 9223372036854775807
                      · rw [if_pos c28] at H
                        have c28b0 := eq_true c28
                        have c28b1 : decide (x4_4.size + t278.size + 1 + t280.size + 1 ≤ 9223372036854775807) = true := decide_eq_true c28
                        try have c28b2 : (9223372036854775807 < x4_4.size + t278.size + 1 + t280.size + 1) = False := eq_false (Nat.not_lt.2 c28)
                        replace H := Option.bind_eq_some_iff.mp H
                        obtain ⟨t281, A290, H⟩ := H
                        replace H : (if x4_4.size + t278.size + 1 + t280.size + 1 + t281.size ≤ 9223372036854775807 then (some (((((x4_4 ++ t278) ++ (⟨#[58]⟩ : ByteArray)) ++ t280) ++ (⟨#[58]⟩ : ByteArray)) ++ t281, true)) else (none)) = some (r1, r2) := H
                        have A29 := Aside0.mk A290
                        clear A290
                        by_cases c30 : x4_4.size + t278.size + 1 + t280.size + 1 + t281.size ≤ 9223372036854775807
                        · rw [if_pos c30] at H
                          have c30b0 := eq_true c30
                          have c30b1 : decide (x4_4.size + t278.size + 1 + t280.size + 1 + t281.size ≤ 9223372036854775807) = true := decide_eq_true c30
                          try have c30b2 : (9223372036854775807 < x4_4.size + t278.size + 1 + t280.size + 1 + t281.size) = False := eq_false (Nat.not_lt.2 c30)
                          simp only [Option.some.injEq, Prod.mk.injEq] at H
                          obtain ⟨rfl, rfl⟩ := H
                          go_wp2_with (first | ((with_reducible refine gate_callee (f := 45) rfl ?_); refine goesL_ (some 18) rfl rfl Tryd.func45 (by kernel_rfl) rfl #[.int .i64 (wrap64 (Int.tdiv x0_4 3600)), .int .i64 1] rfl (by (try simp only [List.map_toArray, List.map_cons, List.map_nil]); first | done | rfl | (simp only [List.length_drop, List.length_take]; rfl)) ?_; (with_reducible refine (epactref17_decimals.calls kj4 (wrap64 (Int.tdiv x0_4 3600)) 1 t278 _ ?side731 A7.out).mono ?_); (case side731 => refine hG.below ?_; repeat (first | (with_reducible first | exact HB.out | apply ba | apply bn | apply bd) | exact HB.out)); rintro e w32 ⟨rfl, hb⟩; refine ⟨_, rfl, ?_⟩; have n0_ := Aside0.mk (below_step (by repeat (first | (with_reducible first | exact HB.out | apply ba | apply bn | apply bd) | exact HB.out)) hb); clear HB; have HB := n0_; clear n0_; (try clear hb)) | ((with_reducible refine gate_callee (f := 45) rfl ?_); refine goesL_ (some 28) rfl rfl Tryd.func45 (by kernel_rfl) rfl #[.int .i64 (Int.tmod (wrap64 (Int.tdiv x0_4 60)) 60), .int .i64 2] rfl (by (try simp only [List.map_toArray, List.map_cons, List.map_nil]); first | done | rfl | (simp only [List.length_drop, List.length_take]; rfl)) ?_; (with_reducible refine (epactref17_decimals.calls kj4 (Int.tmod (wrap64 (Int.tdiv x0_4 60)) 60) 2 t280 _ ?side733 A21.out).mono ?_); (case side733 => refine hG.below ?_; repeat (first | (with_reducible first | exact HB.out | apply ba | apply bn | apply bd) | exact HB.out)); rintro e w34 ⟨rfl, hb⟩; refine ⟨_, rfl, ?_⟩; have n0_ := Aside0.mk (below_step (by repeat (first | (with_reducible first | exact HB.out | apply ba | apply bn | apply bd) | exact HB.out)) hb); clear HB; have HB := n0_; clear n0_; (try clear hb)) | ((with_reducible refine gate_callee (f := 45) rfl ?_); refine goesL_ (some 37) rfl rfl Tryd.func45 (by kernel_rfl) rfl #[.int .i64 (Int.tmod x0_4 60), .int .i64 2] rfl (by (try simp only [List.map_toArray, List.map_cons, List.map_nil]); first | done | rfl | (simp only [List.length_drop, List.length_take]; rfl)) ?_; (with_reducible refine (epactref17_decimals.calls kj4 (Int.tmod x0_4 60) 2 t281 _ ?side735 A29.out).mono ?_); (case side735 => refine hG.below ?_; repeat (first | (with_reducible first | exact HB.out | apply ba | apply bn | apply bd) | exact HB.out)); rintro e w36 ⟨rfl, hb⟩; refine ⟨_, rfl, ?_⟩; have n0_ := Aside0.mk (below_step (by repeat (first | (with_reducible first | exact HB.out | apply ba | apply bn | apply bd) | exact HB.out)) hb); clear HB; have HB := n0_; clear n0_; (try clear hb)))
                          go_ret2
                          exact ⟨by first | rfl | (simp [errW_none, errW_some] <;> rfl) | (simp [*, errW_none, errW_some] <;> rfl), by repeat (first | (with_reducible first | exact HB.out | apply ba | apply bn | apply bd) | exact HB.out)⟩
                        · rw [if_neg c30] at H
                          exact absurd H (by simp)
                      · rw [if_neg c28] at H
                        exact absurd H (by simp)
                  · rw [if_neg c22] at H
                    exact absurd H (by simp)
                · rw [if_neg c20] at H
                  exact absurd H (by simp)
            · rw [if_neg c8] at H
              exact absurd H (by simp)

end Go.Proofs.YtghjemcbkackjaaDoor.P
