-- written by this project's program mkprint.py out of the translation; Lean checks it
import Derived.Test.YtghjemcbkackjaaDoorPe0
namespace Go.Proofs.YtghjemcbkackjaaDoor.Q
open Go.Proofs.YtghjemcbkackjaaDoor.F
open Go.RowKit Go.Proofs.YtghjemcbkackjaaDoorW.PrintWords Go.Proofs.YtghjemcbkackjaaDoorW.PrintLast Go.Proofs.YtghjemcbkackjaaDoorW.PrintMore
attribute [local go_sem] max2_int min2_int max_two min_two max_three min_three max_four min_four   -- for this text's walks alone
set_option linter.unusedVariables false
set_option linter.unusedSimpArgs false

/-! ### epactref08_decimals: function 40 -/
def epactref08_decimals.f : Nat → Int → Option (ByteArray)
  | 0, _ => none
  | k + 1, a0 => if a0 < 0 then (if a0 > (-10) then ((epactref08_decimals.f k (wrap64 (-a0))).bind fun t133 => (if 1 + t133.size ≤ 9223372036854775807 then (some ((⟨#[45]⟩ : ByteArray) ++ t133)) else (none))) else ((epactref08_decimals.f k (wrap64 (Int.tdiv a0 10))).bind fun t134 => ((epactref08_decimals.f k (wrap64 (-(Int.tmod a0 10)))).bind fun t135 => (if t134.size + t135.size ≤ 9223372036854775807 then (some (t134 ++ t135)) else (none))))) else ((some (([(wrap64 (48 + (Int.tmod a0 10))) % 256] : List Int) : List Int)).bind fun y136 => (if a0 < 10 then (some (strOfNums y136)) else ((epactref08_decimals.f k (wrap64 (Int.tdiv a0 10))).bind fun t139 => (if t139.size + (strOfNums y136).size ≤ 9223372036854775807 then (some (t139 ++ (strOfNums y136))) else (none)))))
theorem epactref08_decimals.mono_l : ∀ k, (∀ y0, LeO (epactref08_decimals.f k y0) (epactref08_decimals.f (k + 1) y0))
  | 0 => fun _ r h => by simp [epactref08_decimals.f] at h
  | k + 1 => by
    have ih0 := epactref08_decimals.mono_l k
    · intro y0
      unfold epactref08_decimals.f
      repeat' first
      | (with_reducible exact ih0 _)
      | (with_reducible exact LeO.refl _)
      | (with_reducible exact LeO.none _)
      | (with_reducible refine LeO.ite ?_ ?_)
      | (with_reducible refine LeO.bind ?_ (fun _ => ?_))
      | exact ih0 _
      | exact LeO.none _
      | refine LeO.ite ?_ ?_
      | refine LeO.bind ?_ (fun _ => ?_)
theorem epactref08_decimals.mono : ∀ a0 k, LeO (epactref08_decimals.f k a0) (epactref08_decimals.f (k + 1) a0) := by
  intro a0 k
  have ih0 := epactref08_decimals.mono_l k
  exact ih0 a0
set_option maxHeartbeats 8000000 in
set_option maxRecDepth 100000 in
theorem epactref08_decimals.calls (k : Nat) : ∀ (a0 : Int) (r : ByteArray) (w : World) (hG : GW w) (h : epactref08_decimals.f k a0 = some r),
    Calls Tryd.prog 40 #[.int .i64 a0] w fun e w' => e = .returned (.string r) ∧ Below w.heap.size w w' := by
  induction k using Nat.strongRecOn with
  | _ k ih =>
  intro a0 r w hG h
  cases k with
  | zero => exact absurd h (by simp [epactref08_decimals.f])
  | succ k =>
  simp only [epactref08_decimals.f] at h
  have HB := Aside0.mk (Below.refl w.heap.size w)
  have H : (if a0 < 0 then (if a0 > (-10) then ((epactref08_decimals.f k (wrap64 (-a0))).bind fun t133 => (if 1 + t133.size ≤ 9223372036854775807 then (some ((⟨#[45]⟩ : ByteArray) ++ t133)) else (none))) else ((epactref08_decimals.f k (wrap64 (Int.tdiv a0 10))).bind fun t134 => ((epactref08_decimals.f k (wrap64 (-(Int.tmod a0 10)))).bind fun t135 => (if t134.size + t135.size ≤ 9223372036854775807 then (some (t134 ++ t135)) else (none))))) else ((some (([(wrap64 (48 + (Int.tmod a0 10))) % 256] : List Int) : List Int)).bind fun y136 => (if a0 < 10 then (some (strOfNums y136)) else ((epactref08_decimals.f k (wrap64 (Int.tdiv a0 10))).bind fun t139 => (if t139.size + (strOfNums y136).size ≤ 9223372036854775807 then (some (t139 ++ (strOfNums y136))) else (none)))))) = some r := h
  clear h
  by_cases c2 : a0 < 0
  · rw [if_pos c2] at H
    have c2b0 : decide (a0 < 0) = true := decide_eq_true c2
    clear c2
    by_cases c3 : a0 > (-10)
    · rw [if_pos c3] at H
      have c3b0 : decide ((-10) < a0) = true := decide_eq_true c3
      clear c3
      replace H := Option.bind_eq_some_iff.mp H
      obtain ⟨t133, A40, H⟩ := H
      replace H : (if 1 + t133.size ≤ 9223372036854775807 then (some ((⟨#[45]⟩ : ByteArray) ++ t133)) else (none)) = some r := H
      have A4 := Aside0.mk A40
      clear A40
      by_cases c5 : 1 + t133.size ≤ 9223372036854775807
      · rw [if_pos c5] at H
        have c5b0 := eq_true c5
        have c5b1 : decide (1 + t133.size ≤ 9223372036854775807) = true := decide_eq_true c5
        try have c5b2 : (9223372036854775807 < 1 + t133.size) = False := eq_false (Nat.not_lt.2 c5)
        obtain rfl := Option.some.inj H
        go_enter Tryd.func40, Tryd.ntmps40
        go_wp2_with (first | ((with_reducible refine gate_callee (f := 40) rfl ?_); refine goesL_ (some 10) rfl rfl Tryd.func40 (by kernel_rfl) rfl #[.int .i64 (wrap64 (-a0))] rfl (by (try simp only [List.map_toArray, List.map_cons, List.map_nil]); first | done | rfl | (simp only [List.length_drop, List.length_take]; rfl)) ?_; (with_reducible refine (ih k (by omega) (wrap64 (-a0)) t133 _ ?side706 A4.out).mono ?_); (case side706 => first | exact hG | exact hG.at1 HB | exact hG.drewN _ | (refine hG.below ?_; repeat (first | (with_reducible first | exact HB.out | apply below_alloc | apply pw_below_drewN | apply below_drew1) | exact HB.out))); rintro e w7 ⟨rfl, hb⟩; refine ⟨_, rfl, ?_⟩; have n0_ := Aside0.mk (below_step (by repeat (first | (with_reducible first | exact HB.out | apply below_alloc | apply pw_below_drewN | apply below_drew1) | exact HB.out)) hb); clear HB; have HB := n0_; clear n0_; (try clear hb); (try clear hb2); (try clear hk); (try clear hi)))
        go_ret
        exact ⟨by first | rfl | (simp [errP_none, errP_some] <;> rfl) | (simp [*, errP_none, errP_some] <;> rfl), by repeat (first | (with_reducible first | exact HB.out | apply below_alloc | apply pw_below_drewN | apply below_drew1) | exact HB.out)⟩
      · rw [if_neg c5] at H
        exact absurd H (by simp)
    · rw [if_neg c3] at H
      have c3b0 : decide ((-10) < a0) = false := decide_eq_false c3
      clear c3
      replace H := Option.bind_eq_some_iff.mp H
      obtain ⟨t134, A80, H⟩ := H
      replace H : ((epactref08_decimals.f k (wrap64 (-(Int.tmod a0 10)))).bind fun t135 => (if t134.size + t135.size ≤ 9223372036854775807 then (some (t134 ++ t135)) else (none))) = some r := H
      have A8 := Aside0.mk A80
      clear A80
      replace H := Option.bind_eq_some_iff.mp H
      obtain ⟨t135, A90, H⟩ := H
      replace H : (if t134.size + t135.size ≤ 9223372036854775807 then (some (t134 ++ t135)) else (none)) = some r := H
      have A9 := Aside0.mk A90
      clear A90
      by_cases c10 : t134.size + t135.size ≤ 9223372036854775807
      · rw [if_pos c10] at H
        have c10b0 := eq_true c10
        have c10b1 : decide (t134.size + t135.size ≤ 9223372036854775807) = true := decide_eq_true c10
        try have c10b2 : (9223372036854775807 < t134.size + t135.size) = False := eq_false (Nat.not_lt.2 c10)
        obtain rfl := Option.some.inj H
        go_enter Tryd.func40, Tryd.ntmps40
        go_wp2_with (first | ((with_reducible refine gate_callee (f := 40) rfl ?_); refine goesL_ (some 14) rfl rfl Tryd.func40 (by kernel_rfl) rfl #[.int .i64 (wrap64 (Int.tdiv a0 10))] rfl (by (try simp only [List.map_toArray, List.map_cons, List.map_nil]); first | done | rfl | (simp only [List.length_drop, List.length_take]; rfl)) ?_; (with_reducible refine (ih k (by omega) (wrap64 (Int.tdiv a0 10)) t134 _ ?side711 A8.out).mono ?_); (case side711 => first | exact hG | exact hG.at1 HB | exact hG.drewN _ | (refine hG.below ?_; repeat (first | (with_reducible first | exact HB.out | apply below_alloc | apply pw_below_drewN | apply below_drew1) | exact HB.out))); rintro e w12 ⟨rfl, hb⟩; refine ⟨_, rfl, ?_⟩; have n0_ := Aside0.mk (below_step (by repeat (first | (with_reducible first | exact HB.out | apply below_alloc | apply pw_below_drewN | apply below_drew1) | exact HB.out)) hb); clear HB; have HB := n0_; clear n0_; (try clear hb); (try clear hb2); (try clear hk); (try clear hi)) | ((with_reducible refine gate_callee (f := 40) rfl ?_); refine goesL_ (some 18) rfl rfl Tryd.func40 (by kernel_rfl) rfl #[.int .i64 (wrap64 (-(Int.tmod a0 10)))] rfl (by (try simp only [List.map_toArray, List.map_cons, List.map_nil]); first | done | rfl | (simp only [List.length_drop, List.length_take]; rfl)) ?_; (with_reducible refine (ih k (by omega) (wrap64 (-(Int.tmod a0 10))) t135 _ ?side713 A9.out).mono ?_); (case side713 => first | exact hG | exact hG.at1 HB | exact hG.drewN _ | (refine hG.below ?_; repeat (first | (with_reducible first | exact HB.out | apply below_alloc | apply pw_below_drewN | apply below_drew1) | exact HB.out))); rintro e w14 ⟨rfl, hb⟩; refine ⟨_, rfl, ?_⟩; have n0_ := Aside0.mk (below_step (by repeat (first | (with_reducible first | exact HB.out | apply below_alloc | apply pw_below_drewN | apply below_drew1) | exact HB.out)) hb); clear HB; have HB := n0_; clear n0_; (try clear hb); (try clear hb2); (try clear hk); (try clear hi)))
        go_ret
        exact ⟨by first | rfl | (simp [errP_none, errP_some] <;> rfl) | (simp [*, errP_none, errP_some] <;> rfl), by repeat (first | (with_reducible first | exact HB.out | apply below_alloc | apply pw_below_drewN | apply below_drew1) | exact HB.out)⟩
      · rw [if_neg c10] at H
        exact absurd H (by simp)
  · rw [if_neg c2] at H
    have c2b0 : decide (a0 < 0) = false := decide_eq_false c2
    clear c2
    obtain ⟨y136, hy136⟩ : ∃ y_ : List Int, y_ = (([(wrap64 (48 + (Int.tmod a0 10))) % 256] : List Int)) := ⟨_, rfl⟩
    replace H : (if a0 < 10 then (some (strOfNums y136)) else ((epactref08_decimals.f k (wrap64 (Int.tdiv a0 10))).bind fun t139 => (if t139.size + (strOfNums y136).size ≤ 9223372036854775807 then (some (t139 ++ (strOfNums y136))) else (none)))) = some r := by first | (rw [hy136]; with_reducible exact H) | (have H2_ := (Option.bind_some _ _).symm.trans H; rw [hy136]; with_reducible exact H2_) | (have H2_ := (Option.bind_some _ _).symm.trans H; with_reducible exact H2_) | with_reducible exact H | (rw [hy136]; exact H) | exact H
    have Ny136 := Aside0.mk hy136
    clear hy136
    by_cases c15 : a0 < 10
    · rw [if_pos c15] at H
      have c15b0 : decide (a0 < 10) = true := decide_eq_true c15
      clear c15
      obtain rfl := Option.some.inj H
      go_enter Tryd.func40, Tryd.ntmps40
      go_wp2_with (first | ((with_reducible refine gate_dst (N := 24) rfl ?_); refine Kd.R_lit (Kd.int .u8) _ 5 ?hg (N := 24) ?hd (xs := ([(wrap64 (48 + (Int.tmod a0 10))) % 256] : List Int)) (inner := [.int .u8 ((wrap64 (48 + (Int.tmod a0 10))) % 256)]) (ok := fun _ => True) (okp := fun _ => True) ?hr ?hp (fun _ hk => hk) trivial (Below.refl _ _) (Nat.le_refl _) (by simp) ?_; (case hd => rfl); (case hg => rfl); (case hr => first | (go_simp; done) | (go_simp; rfl)); (case hp => exact (Reps.one (show Kd.M (Kd.int .u8) _ _ _ ((wrap64 (48 + (Int.tmod a0 10))) % 256) [.int .u8 ((wrap64 (48 + (Int.tmod a0 10))) % 256)] from rfl) (Reps.none _ _))); intro v137 w16 ho17 hb hg_ hnew_; clear hg_ hnew_; (first | rw [← Ny136.out] at ho17 | (simp only [Int.reduceToNat] at ho17; rw [← Ny136.out] at ho17)); have n0_ := Aside0.mk (Kd.R_lower ho17 (below_size (by repeat (first | (with_reducible first | exact HB.out | apply below_alloc | apply pw_below_drewN | apply below_drew1) | exact HB.out)))); have n1_ := Aside0.mk (below_step (by repeat (first | (with_reducible first | exact HB.out | apply below_alloc | apply pw_below_drewN | apply below_drew1) | exact HB.out)) hb); clear HB; have HO138 := n0_; have HB := n1_; clear n0_ n1_; clear hb ho17; have hcv18 := own_string (P := Tryd.prog) Tryd.underlying54 Tryd.underlying5 Tryd.underlying9 (Kd.own_of_R HO138.out)))
      go_ret
      exact ⟨by first | rfl | (simp [errP_none, errP_some] <;> rfl) | (simp [*, errP_none, errP_some] <;> rfl), by repeat (first | (with_reducible first | exact HB.out | apply below_alloc | apply pw_below_drewN | apply below_drew1) | exact HB.out)⟩
    · rw [if_neg c15] at H
      have c15b0 : decide (a0 < 10) = false := decide_eq_false c15
      clear c15
      replace H := Option.bind_eq_some_iff.mp H
      obtain ⟨t139, A190, H⟩ := H
      replace H : (if t139.size + (strOfNums y136).size ≤ 9223372036854775807 then (some (t139 ++ (strOfNums y136))) else (none)) = some r := H
      have A19 := Aside0.mk A190
      clear A190
      by_cases c20 : t139.size + (strOfNums y136).size ≤ 9223372036854775807
      · rw [if_pos c20] at H
        have c20b0 := eq_true c20
        have c20b1 : decide (t139.size + (strOfNums y136).size ≤ 9223372036854775807) = true := decide_eq_true c20
        try have c20b2 : (9223372036854775807 < t139.size + (strOfNums y136).size) = False := eq_false (Nat.not_lt.2 c20)
        obtain rfl := Option.some.inj H
        go_enter Tryd.func40, Tryd.ntmps40
        go_wp2_with (first | ((with_reducible refine gate_dst (N := 24) rfl ?_); refine Kd.R_lit (Kd.int .u8) _ 5 ?hg (N := 24) ?hd (xs := ([(wrap64 (48 + (Int.tmod a0 10))) % 256] : List Int)) (inner := [.int .u8 ((wrap64 (48 + (Int.tmod a0 10))) % 256)]) (ok := fun _ => True) (okp := fun _ => True) ?hr ?hp (fun _ hk => hk) trivial (Below.refl _ _) (Nat.le_refl _) (by simp) ?_; (case hd => rfl); (case hg => rfl); (case hr => first | (go_simp; done) | (go_simp; rfl)); (case hp => exact (Reps.one (show Kd.M (Kd.int .u8) _ _ _ ((wrap64 (48 + (Int.tmod a0 10))) % 256) [.int .u8 ((wrap64 (48 + (Int.tmod a0 10))) % 256)] from rfl) (Reps.none _ _))); intro v137 w21 ho22 hb hg_ hnew_; clear hg_ hnew_; (first | rw [← Ny136.out] at ho22 | (simp only [Int.reduceToNat] at ho22; rw [← Ny136.out] at ho22)); have n0_ := Aside0.mk (Kd.R_lower ho22 (below_size (by repeat (first | (with_reducible first | exact HB.out | apply below_alloc | apply pw_below_drewN | apply below_drew1) | exact HB.out)))); have n1_ := Aside0.mk (below_step (by repeat (first | (with_reducible first | exact HB.out | apply below_alloc | apply pw_below_drewN | apply below_drew1) | exact HB.out)) hb); clear HB; have HO138 := n0_; have HB := n1_; clear n0_ n1_; clear hb ho22; have hcv23 := own_string (P := Tryd.prog) Tryd.underlying54 Tryd.underlying5 Tryd.underlying9 (Kd.own_of_R HO138.out)) | ((with_reducible refine gate_callee (f := 40) rfl ?_); refine goesL_ (some 31) rfl rfl Tryd.func40 (by kernel_rfl) rfl #[.int .i64 (wrap64 (Int.tdiv a0 10))] rfl (by (try simp only [List.map_toArray, List.map_cons, List.map_nil]); first | done | rfl | (simp only [List.length_drop, List.length_take]; rfl)) ?_; (with_reducible refine (ih k (by omega) (wrap64 (Int.tdiv a0 10)) t139 _ ?side724 A19.out).mono ?_); (case side724 => first | exact hG | exact hG.at1 HB | exact hG.drewN _ | (refine hG.below ?_; repeat (first | (with_reducible first | exact HB.out | apply below_alloc | apply pw_below_drewN | apply below_drew1) | exact HB.out))); rintro e w25 ⟨rfl, hb⟩; refine ⟨_, rfl, ?_⟩; have n0_ := Aside0.mk (Kd.R_below (by (with_reducible repeat (first | apply Kd.R_alloc | apply Kd.R_drewN | apply Kd.R_drew)); exact HO138.out) hb); have n1_ := Aside0.mk (below_step (by repeat (first | (with_reducible first | exact HB.out | apply below_alloc | apply pw_below_drewN | apply below_drew1) | exact HB.out)) hb); clear HO138; clear HB; have HO138 := n0_; have HB := n1_; clear n0_ n1_; (try clear hb); (try clear hb2); (try clear hk); (try clear hi)))
        go_ret
        exact ⟨by first | rfl | (simp [errP_none, errP_some] <;> rfl) | (simp [*, errP_none, errP_some] <;> rfl), by repeat (first | (with_reducible first | exact HB.out | apply below_alloc | apply pw_below_drewN | apply below_drew1) | exact HB.out)⟩
      · rw [if_neg c20] at H
        exact absurd H (by simp)

/-! ### epactref08_Text: function 14 -/
def epactref08_Text.f (k : Nat) (a0_0 : Int) (a0_1 : Int) : Option (ByteArray) := (some (([(⟨#[97, 114, 103, 117, 109, 101, 110, 116]⟩ : ByteArray), (⟨#[102, 111, 114, 109]⟩ : ByteArray), (⟨#[104, 97, 115, 104]⟩ : ByteArray), (⟨#[111, 114, 100, 101, 114]⟩ : ByteArray), (⟨#[101, 110, 100]⟩ : ByteArray), (⟨#[115, 116, 101, 112]⟩ : ByteArray), (⟨#[103, 97, 112]⟩ : ByteArray), (⟨#[111, 118, 101, 114]⟩ : ByteArray), (⟨#[114, 97, 110, 103, 101]⟩ : ByteArray), (⟨#[101, 120, 112, 105, 114, 101, 100]⟩ : ByteArray), (⟨#[110, 111, 32, 115, 117, 99, 104, 32, 115, 101, 99, 111, 110, 100]⟩ : ByteArray)] : List ByteArray) : List ByteArray)).bind fun y141 => (if a0_1 ≥ 1 then (if a0_1 ≤ 11 then (if 0 ≤ (wrap64 (a0_1 - 1)) then (if (wrap64 (a0_1 - 1)) < (y141.length : Int) then ((epactref08_decimals.f k a0_0).bind fun t145 => (if 5 + t145.size ≤ 9223372036854775807 then (if 5 + t145.size + 2 ≤ 9223372036854775807 then (if 5 + t145.size + 2 + (rdOf ByteArray.empty y141 (wrap64 (a0_1 - 1))).size ≤ 9223372036854775807 then (some ((((⟨#[108, 105, 110, 101, 32]⟩ : ByteArray) ++ t145) ++ (⟨#[58, 32]⟩ : ByteArray)) ++ (rdOf ByteArray.empty y141 (wrap64 (a0_1 - 1))))) else (none)) else (none)) else (none))) else (none)) else (none)) else ((epactref08_decimals.f k a0_0).bind fun t146 => (if 5 + t146.size ≤ 9223372036854775807 then (if 5 + t146.size + 2 ≤ 9223372036854775807 then (if 5 + t146.size + 2 + 5 ≤ 9223372036854775807 then (some ((((⟨#[108, 105, 110, 101, 32]⟩ : ByteArray) ++ t146) ++ (⟨#[58, 32]⟩ : ByteArray)) ++ (⟨#[101, 114, 114, 111, 114]⟩ : ByteArray))) else (none)) else (none)) else (none)))) else ((epactref08_decimals.f k a0_0).bind fun t147 => (if 5 + t147.size ≤ 9223372036854775807 then (if 5 + t147.size + 2 ≤ 9223372036854775807 then (if 5 + t147.size + 2 + 5 ≤ 9223372036854775807 then (some ((((⟨#[108, 105, 110, 101, 32]⟩ : ByteArray) ++ t147) ++ (⟨#[58, 32]⟩ : ByteArray)) ++ (⟨#[101, 114, 114, 111, 114]⟩ : ByteArray))) else (none)) else (none)) else (none))))
theorem epactref08_Text.mono : ∀ a0 a1 k, LeO (epactref08_Text.f k a0 a1) (epactref08_Text.f (k + 1) a0 a1) := by
  intro a0 a1 k
  unfold epactref08_Text.f
  repeat' first
      | (with_reducible exact epactref08_decimals.mono _ _)
      | (with_reducible exact LeO.refl _)
      | (with_reducible exact LeO.none _)
      | (with_reducible refine LeO.ite ?_ ?_)
      | (with_reducible refine LeO.bind ?_ (fun _ => ?_))
      | exact epactref08_decimals.mono _ _
      | exact LeO.none _
      | refine LeO.ite ?_ ?_
      | refine LeO.bind ?_ (fun _ => ?_)
set_option maxHeartbeats 8000000 in
set_option maxRecDepth 100000 in
theorem epactref08_Text.calls (k : Nat) (a0_0 : Int) (a0_1 : Int) (r : ByteArray) (w : World) (hG : GW w) (h : epactref08_Text.f k a0_0 a0_1 = some r) :
    Calls Tryd.prog 14 #[.agg #[.int .i64 a0_0, .int .i64 a0_1]] w fun e w' => e = .returned (.string r) ∧ Below w.heap.size w w' := by
  have hu24 := Tryd.underlying24
  have HB := Aside0.mk (Below.refl w.heap.size w)
  have H : ((some (([(⟨#[97, 114, 103, 117, 109, 101, 110, 116]⟩ : ByteArray), (⟨#[102, 111, 114, 109]⟩ : ByteArray), (⟨#[104, 97, 115, 104]⟩ : ByteArray), (⟨#[111, 114, 100, 101, 114]⟩ : ByteArray), (⟨#[101, 110, 100]⟩ : ByteArray), (⟨#[115, 116, 101, 112]⟩ : ByteArray), (⟨#[103, 97, 112]⟩ : ByteArray), (⟨#[111, 118, 101, 114]⟩ : ByteArray), (⟨#[114, 97, 110, 103, 101]⟩ : ByteArray), (⟨#[101, 120, 112, 105, 114, 101, 100]⟩ : ByteArray), (⟨#[110, 111, 32, 115, 117, 99, 104, 32, 115, 101, 99, 111, 110, 100]⟩ : ByteArray)] : List ByteArray) : List ByteArray)).bind fun y141 => (if a0_1 ≥ 1 then (if a0_1 ≤ 11 then (if 0 ≤ (wrap64 (a0_1 - 1)) then (if (wrap64 (a0_1 - 1)) < (y141.length : Int) then ((epactref08_decimals.f k a0_0).bind fun t145 => (if 5 + t145.size ≤ 9223372036854775807 then (if 5 + t145.size + 2 ≤ 9223372036854775807 then (if 5 + t145.size + 2 + (rdOf ByteArray.empty y141 (wrap64 (a0_1 - 1))).size ≤ 9223372036854775807 then (some ((((⟨#[108, 105, 110, 101, 32]⟩ : ByteArray) ++ t145) ++ (⟨#[58, 32]⟩ : ByteArray)) ++ (rdOf ByteArray.empty y141 (wrap64 (a0_1 - 1))))) else (none)) else (none)) else (none))) else (none)) else (none)) else ((epactref08_decimals.f k a0_0).bind fun t146 => (if 5 + t146.size ≤ 9223372036854775807 then (if 5 + t146.size + 2 ≤ 9223372036854775807 then (if 5 + t146.size + 2 + 5 ≤ 9223372036854775807 then (some ((((⟨#[108, 105, 110, 101, 32]⟩ : ByteArray) ++ t146) ++ (⟨#[58, 32]⟩ : ByteArray)) ++ (⟨#[101, 114, 114, 111, 114]⟩ : ByteArray))) else (none)) else (none)) else (none)))) else ((epactref08_decimals.f k a0_0).bind fun t147 => (if 5 + t147.size ≤ 9223372036854775807 then (if 5 + t147.size + 2 ≤ 9223372036854775807 then (if 5 + t147.size + 2 + 5 ≤ 9223372036854775807 then (some ((((⟨#[108, 105, 110, 101, 32]⟩ : ByteArray) ++ t147) ++ (⟨#[58, 32]⟩ : ByteArray)) ++ (⟨#[101, 114, 114, 111, 114]⟩ : ByteArray))) else (none)) else (none)) else (none))))) = some r := h
  clear h
  obtain ⟨y141, hy141⟩ : ∃ y_ : List ByteArray, y_ = (([(⟨#[97, 114, 103, 117, 109, 101, 110, 116]⟩ : ByteArray), (⟨#[102, 111, 114, 109]⟩ : ByteArray), (⟨#[104, 97, 115, 104]⟩ : ByteArray), (⟨#[111, 114, 100, 101, 114]⟩ : ByteArray), (⟨#[101, 110, 100]⟩ : ByteArray), (⟨#[115, 116, 101, 112]⟩ : ByteArray), (⟨#[103, 97, 112]⟩ : ByteArray), (⟨#[111, 118, 101, 114]⟩ : ByteArray), (⟨#[114, 97, 110, 103, 101]⟩ : ByteArray), (⟨#[101, 120, 112, 105, 114, 101, 100]⟩ : ByteArray), (⟨#[110, 111, 32, 115, 117, 99, 104, 32, 115, 101, 99, 111, 110, 100]⟩ : ByteArray)] : List ByteArray)) := ⟨_, rfl⟩
  replace H : (if a0_1 ≥ 1 then (if a0_1 ≤ 11 then (if 0 ≤ (wrap64 (a0_1 - 1)) then (if (wrap64 (a0_1 - 1)) < (y141.length : Int) then ((epactref08_decimals.f k a0_0).bind fun t145 => (if 5 + t145.size ≤ 9223372036854775807 then (if 5 + t145.size + 2 ≤ 9223372036854775807 then (if 5 + t145.size + 2 + (rdOf ByteArray.empty y141 (wrap64 (a0_1 - 1))).size ≤ 9223372036854775807 then (some ((((⟨#[108, 105, 110, 101, 32]⟩ : ByteArray) ++ t145) ++ (⟨#[58, 32]⟩ : ByteArray)) ++ (rdOf ByteArray.empty y141 (wrap64 (a0_1 - 1))))) else (none)) else (none)) else (none))) else (none)) else (none)) else ((epactref08_decimals.f k a0_0).bind fun t146 => (if 5 + t146.size ≤ 9223372036854775807 then (if 5 + t146.size + 2 ≤ 9223372036854775807 then (if 5 + t146.size + 2 + 5 ≤ 9223372036854775807 then (some ((((⟨#[108, 105, 110, 101, 32]⟩ : ByteArray) ++ t146) ++ (⟨#[58, 32]⟩ : ByteArray)) ++ (⟨#[101, 114, 114, 111, 114]⟩ : ByteArray))) else (none)) else (none)) else (none)))) else ((epactref08_decimals.f k a0_0).bind fun t147 => (if 5 + t147.size ≤ 9223372036854775807 then (if 5 + t147.size + 2 ≤ 9223372036854775807 then (if 5 + t147.size + 2 + 5 ≤ 9223372036854775807 then (some ((((⟨#[108, 105, 110, 101, 32]⟩ : ByteArray) ++ t147) ++ (⟨#[58, 32]⟩ : ByteArray)) ++ (⟨#[101, 114, 114, 111, 114]⟩ : ByteArray))) else (none)) else (none)) else (none)))) = some r := by first | (rw [hy141]; with_reducible exact H) | (have H2_ := (Option.bind_some _ _).symm.trans H; rw [hy141]; with_reducible exact H2_) | (have H2_ := (Option.bind_some _ _).symm.trans H; with_reducible exact H2_) | with_reducible exact H | (rw [hy141]; exact H) | exact H
  have Ny141 := Aside0.mk hy141
  clear hy141
  by_cases c2 : a0_1 ≥ 1
  · rw [if_pos c2] at H
    have c2b0 : decide (1 ≤ a0_1) = true := decide_eq_true c2
    clear c2
    by_cases c3 : a0_1 ≤ 11
    · rw [if_pos c3] at H
      have c3b0 : decide (a0_1 ≤ 11) = true := decide_eq_true c3
      clear c3
      obtain ⟨ji4, hji4⟩ : ∃ j_ : Int, (wrap64 (a0_1 - 1)) = j_ := ⟨_, rfl⟩
      replace H : (if 0 ≤ (ji4) then (if (ji4) < (y141.length : Int) then ((epactref08_decimals.f k a0_0).bind fun t145 => (if 5 + t145.size ≤ 9223372036854775807 then (if 5 + t145.size + 2 ≤ 9223372036854775807 then (if 5 + t145.size + 2 + (rdOf ByteArray.empty y141 (ji4)).size ≤ 9223372036854775807 then (some ((((⟨#[108, 105, 110, 101, 32]⟩ : ByteArray) ++ t145) ++ (⟨#[58, 32]⟩ : ByteArray)) ++ (rdOf ByteArray.empty y141 (ji4)))) else (none)) else (none)) else (none))) else (none)) else (none)) = some r := by first | (rw [hji4] at H; exact H) | (simp only [hji4] at H ⊢; exact H)
      have hji4w : (IntKind.i64.wrap (a0_1 - 1)) = ji4 := (i64_w _).trans hji4
      by_cases c5 : 0 ≤ (ji4)
      · rw [if_pos c5] at H
        have c5b0 : decide (0 ≤ (ji4)) = true := decide_eq_true c5
        clear c5
        by_cases c6 : (ji4) < (y141.length : Int)
        · rw [if_pos c6] at H
          have c6b0 : decide ((ji4) < (y141.length : Int)) = true := decide_eq_true c6
          clear c6
          replace H := Option.bind_eq_some_iff.mp H
          obtain ⟨t145, A70, H⟩ := H
          replace H : (if 5 + t145.size ≤ 9223372036854775807 then (if 5 + t145.size + 2 ≤ 9223372036854775807 then (if 5 + t145.size + 2 + (rdOf ByteArray.empty y141 (ji4)).size ≤ 9223372036854775807 then (some ((((⟨#[108, 105, 110, 101, 32]⟩ : ByteArray) ++ t145) ++ (⟨#[58, 32]⟩ : ByteArray)) ++ (rdOf ByteArray.empty y141 (ji4)))) else (none)) else (none)) else (none)) = some r := H
          have A7 := Aside0.mk A70
          clear A70
          by_cases c8 : 5 + t145.size ≤ 9223372036854775807
          · rw [if_pos c8] at H
            have c8b0 := eq_true c8
            have c8b1 : decide (5 + t145.size ≤ 9223372036854775807) = true := decide_eq_true c8
            try have c8b2 : (9223372036854775807 < 5 + t145.size) = False := eq_false (Nat.not_lt.2 c8)
            by_cases c9 : 5 + t145.size + 2 ≤ 9223372036854775807
            · rw [if_pos c9] at H
              have c9b0 := eq_true c9
              have c9b1 : decide (5 + t145.size + 2 ≤ 9223372036854775807) = true := decide_eq_true c9
              try have c9b2 : (9223372036854775807 < 5 + t145.size + 2) = False := eq_false (Nat.not_lt.2 c9)
              by_cases c10 : 5 + t145.size + 2 + (rdOf ByteArray.empty y141 (ji4)).size ≤ 9223372036854775807
              · rw [if_pos c10] at H
                have c10b0 := eq_true c10
                have c10b1 : decide (5 + t145.size + 2 + (rdOf ByteArray.empty y141 (ji4)).size ≤ 9223372036854775807) = true := decide_eq_true c10
                try have c10b2 : (9223372036854775807 < 5 + t145.size + 2 + (rdOf ByteArray.empty y141 (ji4)).size) = False := eq_false (Nat.not_lt.2 c10)
                obtain rfl := Option.some.inj H
                go_enter Tryd.func14, Tryd.ntmps14
                go_wp2_with (first | ((with_reducible refine gate_dst (N := 1) rfl ?_); refine box_event ?hg (N := 1) ?hd (cs := #[.int .i64 a0_0, .int .i64 a0_1]) (t := 24) ?hr ?_; (case hd => rfl); (case hg => rfl); (case hr => first | (go_simp; done) | (go_simp; rfl)); intro gb140 hg w11 hbox hb; have n0_ := Aside0.mk (below_step (by repeat (first | (with_reducible first | exact HB.out | apply below_alloc | apply pw_below_drewN | apply below_drew1) | exact HB.out)) hb); have n1_ := Aside0.mk (hbox); have n2_ := Aside0.mk ((by rw [hg]; exact (below_size (by repeat (first | (with_reducible first | exact HB.out | apply below_alloc | apply pw_below_drewN | apply below_drew1) | exact HB.out))) : w.heap.size ≤ gb140)); have n3_ := Aside0.mk ((by rw [hg]; exact (below_size (by repeat (first | (with_reducible first | exact HB.out | apply below_alloc | apply pw_below_drewN | apply below_drew1) | exact HB.out))) : w.heap.size ≤ gb140)); clear HB; have HB := n0_; have BK140 := n1_; have GW140 := n2_; have GE140 := n3_; clear n0_ n1_ n2_ n3_; clear hb hbox hg) | ((with_reducible refine gate_dst (N := 5) rfl ?_); refine Kd.R_lit Kd.string _ 9 ?hg (N := 5) ?hd (xs := ([(⟨#[97, 114, 103, 117, 109, 101, 110, 116]⟩ : ByteArray), (⟨#[102, 111, 114, 109]⟩ : ByteArray), (⟨#[104, 97, 115, 104]⟩ : ByteArray), (⟨#[111, 114, 100, 101, 114]⟩ : ByteArray), (⟨#[101, 110, 100]⟩ : ByteArray), (⟨#[115, 116, 101, 112]⟩ : ByteArray), (⟨#[103, 97, 112]⟩ : ByteArray), (⟨#[111, 118, 101, 114]⟩ : ByteArray), (⟨#[114, 97, 110, 103, 101]⟩ : ByteArray), (⟨#[101, 120, 112, 105, 114, 101, 100]⟩ : ByteArray), (⟨#[110, 111, 32, 115, 117, 99, 104, 32, 115, 101, 99, 111, 110, 100]⟩ : ByteArray)] : List ByteArray)) (inner := [.string (⟨#[97, 114, 103, 117, 109, 101, 110, 116]⟩ : ByteArray), .string (⟨#[102, 111, 114, 109]⟩ : ByteArray), .string (⟨#[104, 97, 115, 104]⟩ : ByteArray), .string (⟨#[111, 114, 100, 101, 114]⟩ : ByteArray), .string (⟨#[101, 110, 100]⟩ : ByteArray), .string (⟨#[115, 116, 101, 112]⟩ : ByteArray), .string (⟨#[103, 97, 112]⟩ : ByteArray), .string (⟨#[111, 118, 101, 114]⟩ : ByteArray), .string (⟨#[114, 97, 110, 103, 101]⟩ : ByteArray), .string (⟨#[101, 120, 112, 105, 114, 101, 100]⟩ : ByteArray), .string (⟨#[110, 111, 32, 115, 117, 99, 104, 32, 115, 101, 99, 111, 110, 100]⟩ : ByteArray)]) (ok := fun _ => True) (okp := fun _ => True) ?hr ?hp (fun _ hk => hk) trivial (Below.refl _ _) (Nat.le_refl _) (by simp) ?_; (case hd => rfl); (case hg => rfl); (case hr => first | (go_simp; done) | (go_simp; rfl)); (case hp => exact (Reps.one (show Kd.M Kd.string _ _ _ (⟨#[97, 114, 103, 117, 109, 101, 110, 116]⟩ : ByteArray) [.string (⟨#[97, 114, 103, 117, 109, 101, 110, 116]⟩ : ByteArray)] from rfl) (Reps.one (show Kd.M Kd.string _ _ _ (⟨#[102, 111, 114, 109]⟩ : ByteArray) [.string (⟨#[102, 111, 114, 109]⟩ : ByteArray)] from rfl) (Reps.one (show Kd.M Kd.string _ _ _ (⟨#[104, 97, 115, 104]⟩ : ByteArray) [.string (⟨#[104, 97, 115, 104]⟩ : ByteArray)] from rfl) (Reps.one (show Kd.M Kd.string _ _ _ (⟨#[111, 114, 100, 101, 114]⟩ : ByteArray) [.string (⟨#[111, 114, 100, 101, 114]⟩ : ByteArray)] from rfl) (Reps.one (show Kd.M Kd.string _ _ _ (⟨#[101, 110, 100]⟩ : ByteArray) [.string (⟨#[101, 110, 100]⟩ : ByteArray)] from rfl) (Reps.one (show Kd.M Kd.string _ _ _ (⟨#[115, 116, 101, 112]⟩ : ByteArray) [.string (⟨#[115, 116, 101, 112]⟩ : ByteArray)] from rfl) (Reps.one (show Kd.M Kd.string _ _ _ (⟨#[103, 97, 112]⟩ : ByteArray) [.string (⟨#[103, 97, 112]⟩ : ByteArray)] from rfl) (Reps.one (show Kd.M Kd.string _ _ _ (⟨#[111, 118, 101, 114]⟩ : ByteArray) [.string (⟨#[111, 118, 101, 114]⟩ : ByteArray)] from rfl) (Reps.one (show Kd.M Kd.string _ _ _ (⟨#[114, 97, 110, 103, 101]⟩ : ByteArray) [.string (⟨#[114, 97, 110, 103, 101]⟩ : ByteArray)] from rfl) (Reps.one (show Kd.M Kd.string _ _ _ (⟨#[101, 120, 112, 105, 114, 101, 100]⟩ : ByteArray) [.string (⟨#[101, 120, 112, 105, 114, 101, 100]⟩ : ByteArray)] from rfl) (Reps.one (show Kd.M Kd.string _ _ _ (⟨#[110, 111, 32, 115, 117, 99, 104, 32, 115, 101, 99, 111, 110, 100]⟩ : ByteArray) [.string (⟨#[110, 111, 32, 115, 117, 99, 104, 32, 115, 101, 99, 111, 110, 100]⟩ : ByteArray)] from rfl) (Reps.none _ _))))))))))))); intro v142 w12 ho13 hb hg_ hnew_; clear hg_ hnew_; (first | rw [← Ny141.out] at ho13 | (simp only [Int.reduceToNat] at ho13; rw [← Ny141.out] at ho13)); have n0_ := Aside0.mk (Kd.R_lower ho13 (below_size (by repeat (first | (with_reducible first | exact HB.out | apply below_alloc | apply pw_below_drewN | apply below_drew1 | refine below_set ?_ GE140.out) | exact HB.out)))); have n1_ := Aside0.mk (blk_below (g := gb140) (o := .cells #[.int .i64 a0_0, .int .i64 a0_1] 24 (0, 0)) (by (with_reducible repeat (first | refine blk_drewN ?_ _ | refine blk_drew ?_ | refine blk_alloc ?_ _)); exact BK140.out) hb); have n2_ := Aside0.mk (below_step (by repeat (first | (with_reducible first | exact HB.out | apply below_alloc | apply pw_below_drewN | apply below_drew1 | refine below_set ?_ GE140.out) | exact HB.out)) hb); clear BK140; clear HB; have HO143 := n0_; have BK140 := n1_; have HB := n2_; clear n0_ n1_ n2_; clear hb ho13; have hcz14_0 : w12.cell? ⟨gb140, 0, none⟩ = some (.int .i64 a0_0) := (blk_cell BK140.out 0).trans rfl; have hcz14_1 : w12.cell? ⟨gb140, 1, none⟩ = some (.int .i64 a0_1) := (blk_cell BK140.out 1).trans rfl; have hfz14_0 := blk_frozen BK140.out 0; have hfz14_1 := blk_frozen BK140.out 1; obtain ⟨Ao15, co15, eo15⟩ := Kd.R_slice HO143.out; subst eo15; have p144 : 0 ≤ ((ji4) : Int) := of_decide_eq_true (by first | (with_reducible assumption) | assumption); have q144 : (ji4) < (y141.length : Int) := of_decide_eq_true (by first | (with_reducible assumption) | assumption); obtain ⟨ad144, e144, hx144_0⟩ := Kd.at_string (Kd.R_reads' HO143.out).2.2 (ji4) p144 q144; cases e144; replace p144 := eq_true p144; replace q144 := eq_true q144) | ((with_reducible refine gate_callee (f := 40) rfl ?_); refine goesL_ (some 22) rfl rfl Tryd.func40 (by kernel_rfl) rfl #[.int .i64 a0_0] rfl (by (try simp only [List.map_toArray, List.map_cons, List.map_nil]); first | done | rfl | (simp only [List.length_drop, List.length_take]; rfl)) ?_; (with_reducible refine (epactref08_decimals.calls k a0_0 t145 _ ?side716 A7.out).mono ?_); (case side716 => first | exact hG | exact hG.at1 HB | exact hG.drewN _ | (refine hG.below ?_; repeat (first | (with_reducible first | exact HB.out | apply below_alloc | apply pw_below_drewN | apply below_drew1 | refine below_set ?_ GE140.out) | exact HB.out))); rintro e w17 ⟨rfl, hb⟩; refine ⟨_, rfl, ?_⟩; have n0_ := Aside0.mk (Kd.R_below (by (with_reducible repeat (first | apply Kd.R_alloc | apply Kd.R_drewN | apply Kd.R_drew)); exact HO143.out) hb); have n1_ := Aside0.mk (blk_below (g := gb140) (o := .cells #[.int .i64 a0_0, .int .i64 a0_1] 24 (0, 0)) (by (with_reducible repeat (first | refine blk_drewN ?_ _ | refine blk_drew ?_ | refine blk_alloc ?_ _)); exact BK140.out) hb); have n2_ := Aside0.mk (below_step (by repeat (first | (with_reducible first | exact HB.out | apply below_alloc | apply pw_below_drewN | apply below_drew1 | refine below_set ?_ GE140.out) | exact HB.out)) hb); clear HO143; clear BK140; clear HB; have HO143 := n0_; have BK140 := n1_; have HB := n2_; clear n0_ n1_ n2_; (try clear hb); (try clear hb2); (try clear hk); (try clear hi)))
                go_ret
                exact ⟨by first | rfl | (simp [errP_none, errP_some] <;> rfl) | (simp only [← hji4]; first | rfl | (simp [errP_none, errP_some] <;> rfl)) | (simp [*, errP_none, errP_some] <;> rfl), by repeat (first | (with_reducible first | exact HB.out | apply below_alloc | apply pw_below_drewN | apply below_drew1 | refine below_set ?_ GE140.out) | exact HB.out)⟩
              · rw [if_neg c10] at H
                exact absurd H (by simp)
            · rw [if_neg c9] at H
              exact absurd H (by simp)
          · rw [if_neg c8] at H
            exact absurd H (by simp)
        · rw [if_neg c6] at H
          exact absurd H (by simp)
      · rw [if_neg c5] at H
        exact absurd H (by simp)
    · rw [if_neg c3] at H
      have c3b0 : decide (a0_1 ≤ 11) = false := decide_eq_false c3
      clear c3
      replace H := Option.bind_eq_some_iff.mp H
      obtain ⟨t146, A180, H⟩ := H
      replace H : (if 5 + t146.size ≤ 9223372036854775807 then (if 5 + t146.size + 2 ≤ 9223372036854775807 then (if 5 + t146.size + 2 + 5 ≤ 9223372036854775807 then (some ((((⟨#[108, 105, 110, 101, 32]⟩ : ByteArray) ++ t146) ++ (⟨#[58, 32]⟩ : ByteArray)) ++ (⟨#[101, 114, 114, 111, 114]⟩ : ByteArray))) else (none)) else (none)) else (none)) = some r := H
      have A18 := Aside0.mk A180
      clear A180
      by_cases c19 : 5 + t146.size ≤ 9223372036854775807
      · rw [if_pos c19] at H
        have c19b0 := eq_true c19
        have c19b1 : decide (5 + t146.size ≤ 9223372036854775807) = true := decide_eq_true c19
        try have c19b2 : (9223372036854775807 < 5 + t146.size) = False := eq_false (Nat.not_lt.2 c19)
        by_cases c20 : 5 + t146.size + 2 ≤ 9223372036854775807
        · rw [if_pos c20] at H
          have c20b0 := eq_true c20
          have c20b1 : decide (5 + t146.size + 2 ≤ 9223372036854775807) = true := decide_eq_true c20
          try have c20b2 : (9223372036854775807 < 5 + t146.size + 2) = False := eq_false (Nat.not_lt.2 c20)
          by_cases c21 : 5 + t146.size + 2 + 5 ≤ 9223372036854775807
          · rw [if_pos c21] at H
            have c21b0 := eq_true c21
            have c21b1 : decide (5 + t146.size + 2 + 5 ≤ 9223372036854775807) = true := decide_eq_true c21
            try have c21b2 : (9223372036854775807 < 5 + t146.size + 2 + 5) = False := eq_false (Nat.not_lt.2 c21)
            obtain rfl := Option.some.inj H
            go_enter Tryd.func14, Tryd.ntmps14
            go_wp2_with (first | ((with_reducible refine gate_dst (N := 1) rfl ?_); refine box_event ?hg (N := 1) ?hd (cs := #[.int .i64 a0_0, .int .i64 a0_1]) (t := 24) ?hr ?_; (case hd => rfl); (case hg => rfl); (case hr => first | (go_simp; done) | (go_simp; rfl)); intro gb140 hg w22 hbox hb; have n0_ := Aside0.mk (below_step (by repeat (first | (with_reducible first | exact HB.out | apply below_alloc | apply pw_below_drewN | apply below_drew1) | exact HB.out)) hb); have n1_ := Aside0.mk (hbox); have n2_ := Aside0.mk ((by rw [hg]; exact (below_size (by repeat (first | (with_reducible first | exact HB.out | apply below_alloc | apply pw_below_drewN | apply below_drew1) | exact HB.out))) : w.heap.size ≤ gb140)); have n3_ := Aside0.mk ((by rw [hg]; exact (below_size (by repeat (first | (with_reducible first | exact HB.out | apply below_alloc | apply pw_below_drewN | apply below_drew1) | exact HB.out))) : w.heap.size ≤ gb140)); clear HB; have HB := n0_; have BK140 := n1_; have GW140 := n2_; have GE140 := n3_; clear n0_ n1_ n2_ n3_; clear hb hbox hg) | ((with_reducible refine gate_dst (N := 5) rfl ?_); refine Kd.R_lit Kd.string _ 9 ?hg (N := 5) ?hd (xs := ([(⟨#[97, 114, 103, 117, 109, 101, 110, 116]⟩ : ByteArray), (⟨#[102, 111, 114, 109]⟩ : ByteArray), (⟨#[104, 97, 115, 104]⟩ : ByteArray), (⟨#[111, 114, 100, 101, 114]⟩ : ByteArray), (⟨#[101, 110, 100]⟩ : ByteArray), (⟨#[115, 116, 101, 112]⟩ : ByteArray), (⟨#[103, 97, 112]⟩ : ByteArray), (⟨#[111, 118, 101, 114]⟩ : ByteArray), (⟨#[114, 97, 110, 103, 101]⟩ : ByteArray), (⟨#[101, 120, 112, 105, 114, 101, 100]⟩ : ByteArray), (⟨#[110, 111, 32, 115, 117, 99, 104, 32, 115, 101, 99, 111, 110, 100]⟩ : ByteArray)] : List ByteArray)) (inner := [.string (⟨#[97, 114, 103, 117, 109, 101, 110, 116]⟩ : ByteArray), .string (⟨#[102, 111, 114, 109]⟩ : ByteArray), .string (⟨#[104, 97, 115, 104]⟩ : ByteArray), .string (⟨#[111, 114, 100, 101, 114]⟩ : ByteArray), .string (⟨#[101, 110, 100]⟩ : ByteArray), .string (⟨#[115, 116, 101, 112]⟩ : ByteArray), .string (⟨#[103, 97, 112]⟩ : ByteArray), .string (⟨#[111, 118, 101, 114]⟩ : ByteArray), .string (⟨#[114, 97, 110, 103, 101]⟩ : ByteArray), .string (⟨#[101, 120, 112, 105, 114, 101, 100]⟩ : ByteArray), .string (⟨#[110, 111, 32, 115, 117, 99, 104, 32, 115, 101, 99, 111, 110, 100]⟩ : ByteArray)]) (ok := fun _ => True) (okp := fun _ => True) ?hr ?hp (fun _ hk => hk) trivial (Below.refl _ _) (Nat.le_refl _) (by simp) ?_; (case hd => rfl); (case hg => rfl); (case hr => first | (go_simp; done) | (go_simp; rfl)); (case hp => exact (Reps.one (show Kd.M Kd.string _ _ _ (⟨#[97, 114, 103, 117, 109, 101, 110, 116]⟩ : ByteArray) [.string (⟨#[97, 114, 103, 117, 109, 101, 110, 116]⟩ : ByteArray)] from rfl) (Reps.one (show Kd.M Kd.string _ _ _ (⟨#[102, 111, 114, 109]⟩ : ByteArray) [.string (⟨#[102, 111, 114, 109]⟩ : ByteArray)] from rfl) (Reps.one (show Kd.M Kd.string _ _ _ (⟨#[104, 97, 115, 104]⟩ : ByteArray) [.string (⟨#[104, 97, 115, 104]⟩ : ByteArray)] from rfl) (Reps.one (show Kd.M Kd.string _ _ _ (⟨#[111, 114, 100, 101, 114]⟩ : ByteArray) [.string (⟨#[111, 114, 100, 101, 114]⟩ : ByteArray)] from rfl) (Reps.one (show Kd.M Kd.string _ _ _ (⟨#[101, 110, 100]⟩ : ByteArray) [.string (⟨#[101, 110, 100]⟩ : ByteArray)] from rfl) (Reps.one (show Kd.M Kd.string _ _ _ (⟨#[115, 116, 101, 112]⟩ : ByteArray) [.string (⟨#[115, 116, 101, 112]⟩ : ByteArray)] from rfl) (Reps.one (show Kd.M Kd.string _ _ _ (⟨#[103, 97, 112]⟩ : ByteArray) [.string (⟨#[103, 97, 112]⟩ : ByteArray)] from rfl) (Reps.one (show Kd.M Kd.string _ _ _ (⟨#[111, 118, 101, 114]⟩ : ByteArray) [.string (⟨#[111, 118, 101, 114]⟩ : ByteArray)] from rfl) (Reps.one (show Kd.M Kd.string _ _ _ (⟨#[114, 97, 110, 103, 101]⟩ : ByteArray) [.string (⟨#[114, 97, 110, 103, 101]⟩ : ByteArray)] from rfl) (Reps.one (show Kd.M Kd.string _ _ _ (⟨#[101, 120, 112, 105, 114, 101, 100]⟩ : ByteArray) [.string (⟨#[101, 120, 112, 105, 114, 101, 100]⟩ : ByteArray)] from rfl) (Reps.one (show Kd.M Kd.string _ _ _ (⟨#[110, 111, 32, 115, 117, 99, 104, 32, 115, 101, 99, 111, 110, 100]⟩ : ByteArray) [.string (⟨#[110, 111, 32, 115, 117, 99, 104, 32, 115, 101, 99, 111, 110, 100]⟩ : ByteArray)] from rfl) (Reps.none _ _))))))))))))); intro v142 w23 ho24 hb hg_ hnew_; clear hg_ hnew_; (first | rw [← Ny141.out] at ho24 | (simp only [Int.reduceToNat] at ho24; rw [← Ny141.out] at ho24)); have n0_ := Aside0.mk (Kd.R_lower ho24 (below_size (by repeat (first | (with_reducible first | exact HB.out | apply below_alloc | apply pw_below_drewN | apply below_drew1 | refine below_set ?_ GE140.out) | exact HB.out)))); have n1_ := Aside0.mk (blk_below (g := gb140) (o := .cells #[.int .i64 a0_0, .int .i64 a0_1] 24 (0, 0)) (by (with_reducible repeat (first | refine blk_drewN ?_ _ | refine blk_drew ?_ | refine blk_alloc ?_ _)); exact BK140.out) hb); have n2_ := Aside0.mk (below_step (by repeat (first | (with_reducible first | exact HB.out | apply below_alloc | apply pw_below_drewN | apply below_drew1 | refine below_set ?_ GE140.out) | exact HB.out)) hb); clear BK140; clear HB; have HO143 := n0_; have BK140 := n1_; have HB := n2_; clear n0_ n1_ n2_; clear hb ho24; have hcz25_0 : w23.cell? ⟨gb140, 0, none⟩ = some (.int .i64 a0_0) := (blk_cell BK140.out 0).trans rfl; have hcz25_1 : w23.cell? ⟨gb140, 1, none⟩ = some (.int .i64 a0_1) := (blk_cell BK140.out 1).trans rfl; have hfz25_0 := blk_frozen BK140.out 0; have hfz25_1 := blk_frozen BK140.out 1) | ((with_reducible refine gate_callee (f := 40) rfl ?_); refine goesL_ (some 22) rfl rfl Tryd.func40 (by kernel_rfl) rfl #[.int .i64 a0_0] rfl (by (try simp only [List.map_toArray, List.map_cons, List.map_nil]); first | done | rfl | (simp only [List.length_drop, List.length_take]; rfl)) ?_; (with_reducible refine (epactref08_decimals.calls k a0_0 t146 _ ?side726 A18.out).mono ?_); (case side726 => first | exact hG | exact hG.at1 HB | exact hG.drewN _ | (refine hG.below ?_; repeat (first | (with_reducible first | exact HB.out | apply below_alloc | apply pw_below_drewN | apply below_drew1 | refine below_set ?_ GE140.out) | exact HB.out))); rintro e w27 ⟨rfl, hb⟩; refine ⟨_, rfl, ?_⟩; have n0_ := Aside0.mk (Kd.R_below (by (with_reducible repeat (first | apply Kd.R_alloc | apply Kd.R_drewN | apply Kd.R_drew)); exact HO143.out) hb); have n1_ := Aside0.mk (blk_below (g := gb140) (o := .cells #[.int .i64 a0_0, .int .i64 a0_1] 24 (0, 0)) (by (with_reducible repeat (first | refine blk_drewN ?_ _ | refine blk_drew ?_ | refine blk_alloc ?_ _)); exact BK140.out) hb); have n2_ := Aside0.mk (below_step (by repeat (first | (with_reducible first | exact HB.out | apply below_alloc | apply pw_below_drewN | apply below_drew1 | refine below_set ?_ GE140.out) | exact HB.out)) hb); clear HO143; clear BK140; clear HB; have HO143 := n0_; have BK140 := n1_; have HB := n2_; clear n0_ n1_ n2_; (try clear hb); (try clear hb2); (try clear hk); (try clear hi)))
            go_ret
            exact ⟨by first | rfl | (simp [errP_none, errP_some] <;> rfl) | (simp [*, errP_none, errP_some] <;> rfl), by repeat (first | (with_reducible first | exact HB.out | apply below_alloc | apply pw_below_drewN | apply below_drew1 | refine below_set ?_ GE140.out) | exact HB.out)⟩
          · rw [if_neg c21] at H
            exact absurd H (by simp)
        · rw [if_neg c20] at H
          exact absurd H (by simp)
      · rw [if_neg c19] at H
        exact absurd H (by simp)
  · rw [if_neg c2] at H
    have c2b0 : decide (1 ≤ a0_1) = false := decide_eq_false c2
    clear c2
    replace H := Option.bind_eq_some_iff.mp H
    obtain ⟨t147, A280, H⟩ := H
    replace H : (if 5 + t147.size ≤ 9223372036854775807 then (if 5 + t147.size + 2 ≤ 9223372036854775807 then (if 5 + t147.size + 2 + 5 ≤ 9223372036854775807 then (some ((((⟨#[108, 105, 110, 101, 32]⟩ : ByteArray) ++ t147) ++ (⟨#[58, 32]⟩ : ByteArray)) ++ (⟨#[101, 114, 114, 111, 114]⟩ : ByteArray))) else (none)) else (none)) else (none)) = some r := H
    have A28 := Aside0.mk A280
    clear A280
    by_cases c29 : 5 + t147.size ≤ 9223372036854775807
    · rw [if_pos c29] at H
      have c29b0 := eq_true c29
      have c29b1 : decide (5 + t147.size ≤ 9223372036854775807) = true := decide_eq_true c29
      try have c29b2 : (9223372036854775807 < 5 + t147.size) = False := eq_false (Nat.not_lt.2 c29)
      by_cases c30 : 5 + t147.size + 2 ≤ 9223372036854775807
      · rw [if_pos c30] at H
        have c30b0 := eq_true c30
        have c30b1 : decide (5 + t147.size + 2 ≤ 9223372036854775807) = true := decide_eq_true c30
        try have c30b2 : (9223372036854775807 < 5 + t147.size + 2) = False := eq_false (Nat.not_lt.2 c30)
        by_cases c31 : 5 + t147.size + 2 + 5 ≤ 9223372036854775807
        · rw [if_pos c31] at H
          have c31b0 := eq_true c31
          have c31b1 : decide (5 + t147.size + 2 + 5 ≤ 9223372036854775807) = true := decide_eq_true c31
          try have c31b2 : (9223372036854775807 < 5 + t147.size + 2 + 5) = False := eq_false (Nat.not_lt.2 c31)
          obtain rfl := Option.some.inj H
          go_enter Tryd.func14, Tryd.ntmps14
          go_wp2_with (first | ((with_reducible refine gate_dst (N := 1) rfl ?_); refine box_event ?hg (N := 1) ?hd (cs := #[.int .i64 a0_0, .int .i64 a0_1]) (t := 24) ?hr ?_; (case hd => rfl); (case hg => rfl); (case hr => first | (go_simp; done) | (go_simp; rfl)); intro gb140 hg w32 hbox hb; have n0_ := Aside0.mk (below_step (by repeat (first | (with_reducible first | exact HB.out | apply below_alloc | apply pw_below_drewN | apply below_drew1) | exact HB.out)) hb); have n1_ := Aside0.mk (hbox); have n2_ := Aside0.mk ((by rw [hg]; exact (below_size (by repeat (first | (with_reducible first | exact HB.out | apply below_alloc | apply pw_below_drewN | apply below_drew1) | exact HB.out))) : w.heap.size ≤ gb140)); have n3_ := Aside0.mk ((by rw [hg]; exact (below_size (by repeat (first | (with_reducible first | exact HB.out | apply below_alloc | apply pw_below_drewN | apply below_drew1) | exact HB.out))) : w.heap.size ≤ gb140)); clear HB; have HB := n0_; have BK140 := n1_; have GW140 := n2_; have GE140 := n3_; clear n0_ n1_ n2_ n3_; clear hb hbox hg) | ((with_reducible refine gate_dst (N := 5) rfl ?_); refine Kd.R_lit Kd.string _ 9 ?hg (N := 5) ?hd (xs := ([(⟨#[97, 114, 103, 117, 109, 101, 110, 116]⟩ : ByteArray), (⟨#[102, 111, 114, 109]⟩ : ByteArray), (⟨#[104, 97, 115, 104]⟩ : ByteArray), (⟨#[111, 114, 100, 101, 114]⟩ : ByteArray), (⟨#[101, 110, 100]⟩ : ByteArray), (⟨#[115, 116, 101, 112]⟩ : ByteArray), (⟨#[103, 97, 112]⟩ : ByteArray), (⟨#[111, 118, 101, 114]⟩ : ByteArray), (⟨#[114, 97, 110, 103, 101]⟩ : ByteArray), (⟨#[101, 120, 112, 105, 114, 101, 100]⟩ : ByteArray), (⟨#[110, 111, 32, 115, 117, 99, 104, 32, 115, 101, 99, 111, 110, 100]⟩ : ByteArray)] : List ByteArray)) (inner := [.string (⟨#[97, 114, 103, 117, 109, 101, 110, 116]⟩ : ByteArray), .string (⟨#[102, 111, 114, 109]⟩ : ByteArray), .string (⟨#[104, 97, 115, 104]⟩ : ByteArray), .string (⟨#[111, 114, 100, 101, 114]⟩ : ByteArray), .string (⟨#[101, 110, 100]⟩ : ByteArray), .string (⟨#[115, 116, 101, 112]⟩ : ByteArray), .string (⟨#[103, 97, 112]⟩ : ByteArray), .string (⟨#[111, 118, 101, 114]⟩ : ByteArray), .string (⟨#[114, 97, 110, 103, 101]⟩ : ByteArray), .string (⟨#[101, 120, 112, 105, 114, 101, 100]⟩ : ByteArray), .string (⟨#[110, 111, 32, 115, 117, 99, 104, 32, 115, 101, 99, 111, 110, 100]⟩ : ByteArray)]) (ok := fun _ => True) (okp := fun _ => True) ?hr ?hp (fun _ hk => hk) trivial (Below.refl _ _) (Nat.le_refl _) (by simp) ?_; (case hd => rfl); (case hg => rfl); (case hr => first | (go_simp; done) | (go_simp; rfl)); (case hp => exact (Reps.one (show Kd.M Kd.string _ _ _ (⟨#[97, 114, 103, 117, 109, 101, 110, 116]⟩ : ByteArray) [.string (⟨#[97, 114, 103, 117, 109, 101, 110, 116]⟩ : ByteArray)] from rfl) (Reps.one (show Kd.M Kd.string _ _ _ (⟨#[102, 111, 114, 109]⟩ : ByteArray) [.string (⟨#[102, 111, 114, 109]⟩ : ByteArray)] from rfl) (Reps.one (show Kd.M Kd.string _ _ _ (⟨#[104, 97, 115, 104]⟩ : ByteArray) [.string (⟨#[104, 97, 115, 104]⟩ : ByteArray)] from rfl) (Reps.one (show Kd.M Kd.string _ _ _ (⟨#[111, 114, 100, 101, 114]⟩ : ByteArray) [.string (⟨#[111, 114, 100, 101, 114]⟩ : ByteArray)] from rfl) (Reps.one (show Kd.M Kd.string _ _ _ (⟨#[101, 110, 100]⟩ : ByteArray) [.string (⟨#[101, 110, 100]⟩ : ByteArray)] from rfl) (Reps.one (show Kd.M Kd.string _ _ _ (⟨#[115, 116, 101, 112]⟩ : ByteArray) [.string (⟨#[115, 116, 101, 112]⟩ : ByteArray)] from rfl) (Reps.one (show Kd.M Kd.string _ _ _ (⟨#[103, 97, 112]⟩ : ByteArray) [.string (⟨#[103, 97, 112]⟩ : ByteArray)] from rfl) (Reps.one (show Kd.M Kd.string _ _ _ (⟨#[111, 118, 101, 114]⟩ : ByteArray) [.string (⟨#[111, 118, 101, 114]⟩ : ByteArray)] from rfl) (Reps.one (show Kd.M Kd.string _ _ _ (⟨#[114, 97, 110, 103, 101]⟩ : ByteArray) [.string (⟨#[114, 97, 110, 103, 101]⟩ : ByteArray)] from rfl) (Reps.one (show Kd.M Kd.string _ _ _ (⟨#[101, 120, 112, 105, 114, 101, 100]⟩ : ByteArray) [.string (⟨#[101, 120, 112, 105, 114, 101, 100]⟩ : ByteArray)] from rfl) (Reps.one (show Kd.M Kd.string _ _ _ (⟨#[110, 111, 32, 115, 117, 99, 104, 32, 115, 101, 99, 111, 110, 100]⟩ : ByteArray) [.string (⟨#[110, 111, 32, 115, 117, 99, 104, 32, 115, 101, 99, 111, 110, 100]⟩ : ByteArray)] from rfl) (Reps.none _ _))))))))))))); intro v142 w33 ho34 hb hg_ hnew_; clear hg_ hnew_; (first | rw [← Ny141.out] at ho34 | (simp only [Int.reduceToNat] at ho34; rw [← Ny141.out] at ho34)); have n0_ := Aside0.mk (Kd.R_lower ho34 (below_size (by repeat (first | (with_reducible first | exact HB.out | apply below_alloc | apply pw_below_drewN | apply below_drew1 | refine below_set ?_ GE140.out) | exact HB.out)))); have n1_ := Aside0.mk (blk_below (g := gb140) (o := .cells #[.int .i64 a0_0, .int .i64 a0_1] 24 (0, 0)) (by (with_reducible repeat (first | refine blk_drewN ?_ _ | refine blk_drew ?_ | refine blk_alloc ?_ _)); exact BK140.out) hb); have n2_ := Aside0.mk (below_step (by repeat (first | (with_reducible first | exact HB.out | apply below_alloc | apply pw_below_drewN | apply below_drew1 | refine below_set ?_ GE140.out) | exact HB.out)) hb); clear BK140; clear HB; have HO143 := n0_; have BK140 := n1_; have HB := n2_; clear n0_ n1_ n2_; clear hb ho34; have hcz35_0 : w33.cell? ⟨gb140, 0, none⟩ = some (.int .i64 a0_0) := (blk_cell BK140.out 0).trans rfl; have hcz35_1 : w33.cell? ⟨gb140, 1, none⟩ = some (.int .i64 a0_1) := (blk_cell BK140.out 1).trans rfl; have hfz35_0 := blk_frozen BK140.out 0; have hfz35_1 := blk_frozen BK140.out 1) | ((with_reducible refine gate_callee (f := 40) rfl ?_); refine goesL_ (some 22) rfl rfl Tryd.func40 (by kernel_rfl) rfl #[.int .i64 a0_0] rfl (by (try simp only [List.map_toArray, List.map_cons, List.map_nil]); first | done | rfl | (simp only [List.length_drop, List.length_take]; rfl)) ?_; (with_reducible refine (epactref08_decimals.calls k a0_0 t147 _ ?side736 A28.out).mono ?_); (case side736 => first | exact hG | exact hG.at1 HB | exact hG.drewN _ | (refine hG.below ?_; repeat (first | (with_reducible first | exact HB.out | apply below_alloc | apply pw_below_drewN | apply below_drew1 | refine below_set ?_ GE140.out) | exact HB.out))); rintro e w37 ⟨rfl, hb⟩; refine ⟨_, rfl, ?_⟩; have n0_ := Aside0.mk (Kd.R_below (by (with_reducible repeat (first | apply Kd.R_alloc | apply Kd.R_drewN | apply Kd.R_drew)); exact HO143.out) hb); have n1_ := Aside0.mk (blk_below (g := gb140) (o := .cells #[.int .i64 a0_0, .int .i64 a0_1] 24 (0, 0)) (by (with_reducible repeat (first | refine blk_drewN ?_ _ | refine blk_drew ?_ | refine blk_alloc ?_ _)); exact BK140.out) hb); have n2_ := Aside0.mk (below_step (by repeat (first | (with_reducible first | exact HB.out | apply below_alloc | apply pw_below_drewN | apply below_drew1 | refine below_set ?_ GE140.out) | exact HB.out)) hb); clear HO143; clear BK140; clear HB; have HO143 := n0_; have BK140 := n1_; have HB := n2_; clear n0_ n1_ n2_; (try clear hb); (try clear hb2); (try clear hk); (try clear hi)))
          go_ret
          exact ⟨by first | rfl | (simp [errP_none, errP_some] <;> rfl) | (simp [*, errP_none, errP_some] <;> rfl), by repeat (first | (with_reducible first | exact HB.out | apply below_alloc | apply pw_below_drewN | apply below_drew1 | refine below_set ?_ GE140.out) | exact HB.out)⟩
        · rw [if_neg c31] at H
          exact absurd H (by simp)
      · rw [if_neg c30] at H
        exact absurd H (by simp)
    · rw [if_neg c29] at H
      exact absurd H (by simp)

end Go.Proofs.YtghjemcbkackjaaDoor.Q
