-- written by this project's program mkprint.py out of the translation; Lean checks it
import Derived.Test.YtghjemcbkackjaaDoorPx0
import Derived.Test.YtghjemcbkackjaaDoorPx1
import Derived.Test.YtghjemcbkackjaaDoorPx2
import Derived.Test.YtghjemcbkackjaaDoorPx3
import Derived.Test.YtghjemcbkackjaaDoorPx4
import Derived.Test.YtghjemcbkackjaaDoorPx5
import Derived.Test.YtghjemcbkackjaaDoorPx7
import Derived.Test.YtghjemcbkackjaaDoorPx9
import Derived.Test.YtghjemcbkackjaaDoorPx11
import Derived.Test.YtghjemcbkackjaaDoorPx13
import Derived.Test.YtghjemcbkackjaaDoorPx14
import Derived.Test.YtghjemcbkackjaaDoorPx15
import Derived.Test.YtghjemcbkackjaaDoorPx18
import Derived.Test.YtghjemcbkackjaaDoorPx20
import Derived.Test.YtghjemcbkackjaaDoorPx21
import Derived.Test.YtghjemcbkackjaaDoorPxS
namespace Go.Proofs.YtghjemcbkackjaaDoor.P
open Go.Proofs.YtghjemcbkackjaaDoor.F
open Go.RowKit Go.Proofs.YtghjemcbkackjaaDoorW.PrintWords Go.Proofs.YtghjemcbkackjaaDoorW.PrintLast Go.Proofs.YtghjemcbkackjaaDoorW.PrintMore
attribute [local go_sem] max2_int min2_int max_two min_two max_three min_three max_four min_four   -- for this text's walks alone
set_option linter.unusedVariables false
set_option linter.unusedSimpArgs false

attribute [local go_sem high] eqA42
/-! ### epactlaw17_RuleTells: function 7 -/
def epactlaw17_RuleTells.f (k : Nat) (a0_0 : Int) (a0_1 : Int) (a0_2 : Int) (a0_3 : Int) (a0_4 : Int) (a1 : ByteArray) (a2 : Int) (a3 : Int) : Option (Bool) := (epactlaw17_smallF.f).bind fun t349 => (if (a1.size : Int) > 200 then (some t349) else ((rule_Clock.f k a2).bind fun bt350 => ((epactref17_Clock.f k a2).bind fun bt352 => ((rule_Time.f k a1).bind fun bt354 => ((epactref17_Time.f k a1).bind fun bt357 => ((rule_Text.f k a0_0 a0_1 a0_2 a0_3 a0_4).bind fun bt360 => ((epactref17_Text.f k a0_0 a0_1 a0_2 a0_3 a0_4).bind fun bt362 => ((rule_Parse.f k a1).bind fun bt364 => ((epactref17_Parse.f k a1).bind fun bt372 => ((rule_At.f k a0_0 a0_1 a0_2 a0_3 a0_4 a3).bind fun bt380 => ((epactref17_At.f k a0_0 a0_1 a0_2 a0_3 a0_4 a3).bind fun bt382 => ((rule_Day.f k a0_0 a0_1 a0_2 a0_3 a0_4 a3).bind fun bt384 => ((epactref17_Day.f k a0_0 a0_1 a0_2 a0_3 a0_4 a3).bind fun bt386 => (if t349 = true then ((rule_Right.f a0_0 a0_1 a0_2 a0_3 a0_4).bind fun t388 => ((epactref17_Right.f k a0_0 a0_1 a0_2 a0_3 a0_4).bind fun t389 => (if (t388 == t389) = true then (if bt350.1.toList = bt352.1.toList then (if (bt350.2 == bt352.2) = true then (if bt354.1 = bt357.1 then (if bt354.2.1.toList = bt357.2.1.toList then (if (bt354.2.2 == bt357.2.2) = true then (if bt360.1.toList = bt362.1.toList then (if (bt360.2 == bt362.2) = true then (if (bt364.1 == bt372.1 && (bt364.2.1 == bt372.2.1 && (bt364.2.2.1 == bt372.2.2.1 && (bt364.2.2.2.1 == bt372.2.2.2.1 && (bt364.2.2.2.2.1 == bt372.2.2.2.2.1))))) = true then (if bt364.2.2.2.2.2.1.toList = bt372.2.2.2.2.2.1.toList then (if (bt364.2.2.2.2.2.2 == bt372.2.2.2.2.2.2) = true then (if bt380.1 = bt382.1 then (if (bt380.2 == bt382.2) = true then (if bt384.1 = bt386.1 then (some (bt384.2 == bt386.2)) else (some false)) else (some false)) else (some false)) else (some false)) else (some false)) else (some false)) else (some false)) else (some false)) else (some false)) else (some false)) else (some false)) else (some false)) else (some false)) else (some false)))) else (some false)))))))))))))))
theorem epactlaw17_RuleTells.mono : ∀ a0 a1 a2 a3 a4 a5 a6 a7 k, LeO (epactlaw17_RuleTells.f k a0 a1 a2 a3 a4 a5 a6 a7) (epactlaw17_RuleTells.f (k + 1) a0 a1 a2 a3 a4 a5 a6 a7) := by
  intro a0 a1 a2 a3 a4 a5 a6 a7 k
  unfold epactlaw17_RuleTells.f
  repeat' first
      | (with_reducible exact epactref17_At.mono _ _ _ _ _ _ _)
      | (with_reducible exact epactref17_Clock.mono _ _)
      | (with_reducible exact epactref17_Day.mono _ _ _ _ _ _ _)
      | (with_reducible exact epactref17_Parse.mono _ _)
      | (with_reducible exact epactref17_Right.mono _ _ _ _ _ _)
      | (with_reducible exact epactref17_Text.mono _ _ _ _ _ _)
      | (with_reducible exact epactref17_Time.mono _ _)
      | (with_reducible exact rule_At.mono _ _ _ _ _ _ _)
      | (with_reducible exact rule_Clock.mono _ _)
      | (with_reducible exact rule_Day.mono _ _ _ _ _ _ _)
      | (with_reducible exact rule_Parse.mono _ _)
      | (with_reducible exact rule_Text.mono _ _ _ _ _ _)
      | (with_reducible exact rule_Time.mono _ _)
      | (with_reducible exact LeO.refl _)
      | (with_reducible exact LeO.none _)
      | (with_reducible refine LeO.ite ?_ ?_)
      | (with_reducible refine LeO.bind ?_ (fun _ => ?_))
      | exact epactref17_At.mono _ _ _ _ _ _ _
      | exact epactref17_Clock.mono _ _
      | exact epactref17_Day.mono _ _ _ _ _ _ _
      | exact epactref17_Parse.mono _ _
      | exact epactref17_Right.mono _ _ _ _ _ _
      | exact epactref17_Text.mono _ _ _ _ _ _
      | exact epactref17_Time.mono _ _
      | exact rule_At.mono _ _ _ _ _ _ _
      | exact rule_Clock.mono _ _
      | exact rule_Day.mono _ _ _ _ _ _ _
      | exact rule_Parse.mono _ _
      | exact rule_Text.mono _ _ _ _ _ _
      | exact rule_Time.mono _ _
      | exact LeO.none _
      | refine LeO.ite ?_ ?_
      | refine LeO.bind ?_ (fun _ => ?_)
def epactlaw17_RuleTells.T16 : Bool × List (List Nat × List Nat) := (true, [([], []), ([0], [0]), ([1], [1]), ([2, 1, 1], [1, 2]), ([1], [1]), ([4, 3, 1], [1, 4]), ([3, 5, 1], [1, 3, 5]), ([1, 6], [1, 6]), ([7, 5], [7]), ([8], [8]), ([8], [8]), ([9, 10, 8], [8, 9, 10]), ([8, 11], [8, 11]), ([12, 8], [12]), ([13], [13]), ([13], [13]), ([14, 15, 13], [13, 14, 15]), ([13, 16], [13, 16]), ([17, 13], [17]), ([18], [18]), ([18], [18]), ([19, 20, 18], [18, 19, 20]), ([18, 21], [18, 21]), ([22, 18], [22]), ([23], [23]), ([23], [23]), ([24, 25, 23], [23, 24, 25]), ([23, 26], [23, 26]), ([27, 23], [27]), ([28], [28]), ([28], [28]), ([29, 30, 28], [28, 29, 30]), ([28, 31], [28, 31]), ([32, 28], [32]), ([33], [33]), ([33], [33]), ([34, 35, 33], [33, 34, 35]), ([33, 36], [33, 36]), ([37, 33], [37]), ([38], [38]), ([38], [38]), ([39, 40, 38], [38, 39, 40]), ([38, 41], [38, 41]), ([42, 38], [42]), ([43], [43]), ([43], [43]), ([44, 45, 43], [43, 44, 45]), ([43, 46], [43, 46]), ([47, 43], [47]), ([48], [48]), ([48], [48]), ([49, 50, 48], [48, 49, 50]), ([48, 51], [48, 51]), ([52, 48], [52]), ([53], [53]), ([53], [53]), ([54, 55, 53], [53, 54, 55]), ([53, 56], [53, 56]), ([57, 53], [57]), ([58], [58]), ([58], [58]), ([59, 60, 58], [58, 59, 60]), ([58, 61], [58, 61]), ([62, 58], [62]), ([63], [63]), ([63], [63]), ([64, 65, 63], [63, 64, 65]), ([63, 66], [63, 66]), ([67, 63], [67]), ([68], [68]), ([68], [68]), ([69, 70, 68], [68, 69, 70]), ([68, 71], [68, 71]), ([72, 68], [72]), ([73], [73]), ([73], [73]), ([74, 75, 73], [73, 74, 75]), ([73, 76], [73, 76]), ([77, 73, 0, 1, 2, 3, 4, 5, 6, 7, 8, 9, 10, 11, 12, 13, 14, 15, 16, 17, 18, 19, 20, 21, 22, 23, 24, 25, 26, 27, 28, 29, 30, 31, 32, 33, 34, 35, 36, 37, 38, 39, 40, 41, 42, 43, 44, 45, 46, 47, 48, 49, 50, 51, 52, 53, 54, 55, 56, 57, 58, 59, 60, 61, 62, 63, 64, 65, 66, 67, 68, 69, 70, 71, 72, 73, 74, 75, 76, 77], [77])])
def epactlaw17_RuleTells.B16 : List Nat := [0, 1, 3, 7, 3, 31, 63, 127, 255, 511, 511, 2047, 4095, 8191, 16383, 16383, 65535, 131071, 262143, 524287, 524287, 2097151, 4194303, 8388607, 16777215, 16777215, 67108863, 134217727, 268435455, 536870911, 536870911, 2147483647, 4294967295, 8589934591, 17179869183, 17179869183, 68719476735, 137438953471, 274877906943, 549755813887, 549755813887, 2199023255551, 4398046511103, 8796093022207, 17592186044415, 17592186044415, 70368744177663, 140737488355327, 281474976710655, 562949953421311, 562949953421311, 2251799813685247, 4503599627370495, 9007199254740991, 18014398509481983, 18014398509481983, 72057594037927935, 144115188075855871, 288230376151711743, 576460752303423487, 576460752303423487, 2305843009213693951, 4611686018427387903, 9223372036854775807, 18446744073709551615, 18446744073709551615, 73786976294838206463, 147573952589676412927, 295147905179352825855, 590295810358705651711, 590295810358705651711, 2361183241434822606847, 4722366482869645213695, 9444732965739290427391, 18889465931478580854783, 18889465931478580854783, 75557863725914323419135, 151115727451828646838271, 302231454903657293676543]
theorem epactlaw17_RuleTells.tab16 : rtab .any (opsOf Tryd.f7 16) = epactlaw17_RuleTells.T16 := by kernel_rfl
theorem epactlaw17_RuleTells.bits16 : waitsOk epactlaw17_RuleTells.T16.2 epactlaw17_RuleTells.B16 = true := by kernel_rfl
set_option maxHeartbeats 8000000 in
set_option maxRecDepth 100000 in
theorem epactlaw17_RuleTells.calls (k : Nat) (a0_0 : Int) (a0_1 : Int) (a0_2 : Int) (a0_3 : Int) (a0_4 : Int) (a1 : ByteArray) (a2 : Int) (a3 : Int) (w : World) (hG : GW w) (h : epactlaw17_RuleTells.f k a0_0 a0_1 a0_2 a0_3 a0_4 a1 a2 a3 = some true) :
    Calls Tryd.prog 7 #[.agg #[.int .i64 a0_0, .int .i64 a0_1, .int .i64 a0_2, .int .i64 a0_3, .int .i64 a0_4], .string a1, .int .i64 a2, .int .i64 a3] w fun e w' => e = .returned (.bool true) ∧ Below w.heap.size w w' := by
  have hu42 := Tryd.underlying42
  have HB := Aside0.mk (Below.refl w.heap.size w)
  have H : ((epactlaw17_smallF.f).bind fun t349 => (if (a1.size : Int) > 200 then (some t349) else ((rule_Clock.f k a2).bind fun bt350 => ((epactref17_Clock.f k a2).bind fun bt352 => ((rule_Time.f k a1).bind fun bt354 => ((epactref17_Time.f k a1).bind fun bt357 => ((rule_Text.f k a0_0 a0_1 a0_2 a0_3 a0_4).bind fun bt360 => ((epactref17_Text.f k a0_0 a0_1 a0_2 a0_3 a0_4).bind fun bt362 => ((rule_Parse.f k a1).bind fun bt364 => ((epactref17_Parse.f k a1).bind fun bt372 => ((rule_At.f k a0_0 a0_1 a0_2 a0_3 a0_4 a3).bind fun bt380 => ((epactref17_At.f k a0_0 a0_1 a0_2 a0_3 a0_4 a3).bind fun bt382 => ((rule_Day.f k a0_0 a0_1 a0_2 a0_3 a0_4 a3).bind fun bt384 => ((epactref17_Day.f k a0_0 a0_1 a0_2 a0_3 a0_4 a3).bind fun bt386 => (if t349 = true then ((rule_Right.f a0_0 a0_1 a0_2 a0_3 a0_4).bind fun t388 => ((epactref17_Right.f k a0_0 a0_1 a0_2 a0_3 a0_4).bind fun t389 => (if (t388 == t389) = true then (if bt350.1.toList = bt352.1.toList then (if (bt350.2 == bt352.2) = true then (if bt354.1 = bt357.1 then (if bt354.2.1.toList = bt357.2.1.toList then (if (bt354.2.2 == bt357.2.2) = true then (if bt360.1.toList = bt362.1.toList then (if (bt360.2 == bt362.2) = true then (if (bt364.1 == bt372.1 && (bt364.2.1 == bt372.2.1 && (bt364.2.2.1 == bt372.2.2.1 && (bt364.2.2.2.1 == bt372.2.2.2.1 && (bt364.2.2.2.2.1 == bt372.2.2.2.2.1))))) = true then (if bt364.2.2.2.2.2.1.toList = bt372.2.2.2.2.2.1.toList then (if (bt364.2.2.2.2.2.2 == bt372.2.2.2.2.2.2) = true then (if bt380.1 = bt382.1 then (if (bt380.2 == bt382.2) = true then (if bt384.1 = bt386.1 then (some (bt384.2 == bt386.2)) else (some false)) else (some false)) else (some false)) else (some false)) else (some false)) else (some false)) else (some false)) else (some false)) else (some false)) else (some false)) else (some false)) else (some false)) else (some false)) else (some false)))) else (some false)))))))))))))))) = some true := h
  clear h
  replace H := Option.bind_eq_some_iff.mp H
  obtain ⟨t349, A50, H⟩ := H
  replace H : (if (a1.size : Int) > 200 then (some t349) else ((rule_Clock.f k a2).bind fun bt350 => ((epactref17_Clock.f k a2).bind fun bt352 => ((rule_Time.f k a1).bind fun bt354 => ((epactref17_Time.f k a1).bind fun bt357 => ((rule_Text.f k a0_0 a0_1 a0_2 a0_3 a0_4).bind fun bt360 => ((epactref17_Text.f k a0_0 a0_1 a0_2 a0_3 a0_4).bind fun bt362 => ((rule_Parse.f k a1).bind fun bt364 => ((epactref17_Parse.f k a1).bind fun bt372 => ((rule_At.f k a0_0 a0_1 a0_2 a0_3 a0_4 a3).bind fun bt380 => ((epactref17_At.f k a0_0 a0_1 a0_2 a0_3 a0_4 a3).bind fun bt382 => ((rule_Day.f k a0_0 a0_1 a0_2 a0_3 a0_4 a3).bind fun bt384 => ((epactref17_Day.f k a0_0 a0_1 a0_2 a0_3 a0_4 a3).bind fun bt386 => (if t349 = true then ((rule_Right.f a0_0 a0_1 a0_2 a0_3 a0_4).bind fun t388 => ((epactref17_Right.f k a0_0 a0_1 a0_2 a0_3 a0_4).bind fun t389 => (if (t388 == t389) = true then (if bt350.1.toList = bt352.1.toList then (if (bt350.2 == bt352.2) = true then (if bt354.1 = bt357.1 then (if bt354.2.1.toList = bt357.2.1.toList then (if (bt354.2.2 == bt357.2.2) = true then (if bt360.1.toList = bt362.1.toList then (if (bt360.2 == bt362.2) = true then (if (bt364.1 == bt372.1 && (bt364.2.1 == bt372.2.1 && (bt364.2.2.1 == bt372.2.2.1 && (bt364.2.2.2.1 == bt372.2.2.2.1 && (bt364.2.2.2.2.1 == bt372.2.2.2.2.1))))) = true then (if bt364.2.2.2.2.2.1.toList = bt372.2.2.2.2.2.1.toList then (if (bt364.2.2.2.2.2.2 == bt372.2.2.2.2.2.2) = true then (if bt380.1 = bt382.1 then (if (bt380.2 == bt382.2) = true then (if bt384.1 = bt386.1 then (some (bt384.2 == bt386.2)) else (some false)) else (some false)) else (some false)) else (some false)) else (some false)) else (some false)) else (some false)) else (some false)) else (some false)) else (some false)) else (some false)) else (some false)) else (some false)) else (some false)))) else (some false))))))))))))))) = some true := H
  have A5 := Aside0.mk A50
  clear A50
  by_cases c6 : (a1.size : Int) > 200
  · rw [if_pos c6] at H
    have c6b0 : decide (200 < (a1.size : Int)) = true := decide_eq_true c6
    have c6b1 : decide (200 < a1.size) = true := decide_eq_true (by omega)
    clear c6
    have hT := Option.some.inj H
    clear H
    try have hT2 : (t349) = true := by simpa using hT
    go_enter Tryd.func7, Tryd.ntmps7
    go_wp2_with (first | ((with_reducible refine gate_dst (N := 4) rfl ?_); refine box_event ?hg (N := 4) ?hd (cs := #[.int .i64 a0_0, .int .i64 a0_1, .int .i64 a0_2, .int .i64 a0_3, .int .i64 a0_4]) (t := 42) ?hr ?_; (case hd => rfl); (case hg => rfl); (case hr => first | (go_simp; done) | (go_simp; rfl)); intro gb348 hg w7 hbox hb; have n0_ := Aside0.mk (below_step (by repeat (first | (with_reducible first | exact HB.out | apply ba | apply bn | apply bd) | exact HB.out)) hb); have n1_ := Aside0.mk (hbox); have n2_ := Aside0.mk ((by rw [hg]; exact (below_size (by repeat (first | (with_reducible first | exact HB.out | apply ba | apply bn | apply bd) | exact HB.out))) : w.heap.size ≤ gb348)); have n3_ := Aside0.mk ((by rw [hg]; exact (below_size (by repeat (first | (with_reducible first | exact HB.out | apply ba | apply bn | apply bd) | exact HB.out))) : w.heap.size ≤ gb348)); clear HB; have HB := n0_; have BK348 := n1_; have GW348 := n2_; have GE348 := n3_; clear n0_ n1_ n2_ n3_; clear hb hbox hg) | ((with_reducible refine gate_callee (f := 21) rfl ?_); refine goesL_ (some 38) rfl rfl Tryd.func21 (by kernel_rfl) rfl #[] rfl (by (try simp only [List.map_toArray, List.map_cons, List.map_nil]); first | done | rfl | (simp only [List.length_drop, List.length_take]; rfl)) ?_; (with_reducible refine (epactlaw17_smallF.calls  t349 _ ?side708 A5.out).mono ?_); (case side708 => refine hG.below ?_; repeat (first | (with_reducible first | exact HB.out | apply below_alloc | apply pw_below_drewN | apply below_drew1 | refine below_set ?_ GE348.out) | exact HB.out)); rintro e w9 ⟨rfl, hb⟩; refine ⟨_, rfl, ?_⟩; have n0_ := Aside0.mk (blk_below (g := gb348) (o := .cells #[.int .i64 a0_0, .int .i64 a0_1, .int .i64 a0_2, .int .i64 a0_3, .int .i64 a0_4] 42 (0, 0)) (by (with_reducible repeat (first | refine blk_drewN ?_ _ | refine blk_drew ?_ | refine blk_alloc ?_ _)); exact BK348.out) hb); have n1_ := Aside0.mk (below_step (by repeat (first | (with_reducible first | exact HB.out | apply below_alloc | apply pw_below_drewN | apply below_drew1 | refine below_set ?_ GE348.out) | exact HB.out)) hb); clear BK348; clear HB; have BK348 := n0_; have HB := n1_; clear n0_ n1_; (try clear hb)))
    go_ret
    exact ⟨by first | rfl | (simp [errW_none, errW_some] <;> rfl) | (simp [*, errW_none, errW_some] <;> rfl), by repeat (first | (with_reducible first | exact HB.out | apply below_alloc | apply pw_below_drewN | apply below_drew1 | refine below_set ?_ GE348.out) | exact HB.out)⟩
  · rw [if_neg c6] at H
    have c6b0 : decide (200 < (a1.size : Int)) = false := decide_eq_false c6
    have c6b1 : decide (200 < a1.size) = false := decide_eq_false (by omega)
    clear c6
    replace H := Option.bind_eq_some_iff.mp H
    obtain ⟨⟨t350, t351⟩, A100, H⟩ := H
    replace H : ((epactref17_Clock.f k a2).bind fun bt352 => ((rule_Time.f k a1).bind fun bt354 => ((epactref17_Time.f k a1).bind fun bt357 => ((rule_Text.f k a0_0 a0_1 a0_2 a0_3 a0_4).bind fun bt360 => ((epactref17_Text.f k a0_0 a0_1 a0_2 a0_3 a0_4).bind fun bt362 => ((rule_Parse.f k a1).bind fun bt364 => ((epactref17_Parse.f k a1).bind fun bt372 => ((rule_At.f k a0_0 a0_1 a0_2 a0_3 a0_4 a3).bind fun bt380 => ((epactref17_At.f k a0_0 a0_1 a0_2 a0_3 a0_4 a3).bind fun bt382 => ((rule_Day.f k a0_0 a0_1 a0_2 a0_3 a0_4 a3).bind fun bt384 => ((epactref17_Day.f k a0_0 a0_1 a0_2 a0_3 a0_4 a3).bind fun bt386 => (if t349 = true then ((rule_Right.f a0_0 a0_1 a0_2 a0_3 a0_4).bind fun t388 => ((epactref17_Right.f k a0_0 a0_1 a0_2 a0_3 a0_4).bind fun t389 => (if (t388 == t389) = true then (if t350.toList = bt352.1.toList then (if (t351 == bt352.2) = true then (if bt354.1 = bt357.1 then (if bt354.2.1.toList = bt357.2.1.toList then (if (bt354.2.2 == bt357.2.2) = true then (if bt360.1.toList = bt362.1.toList then (if (bt360.2 == bt362.2) = true then (if (bt364.1 == bt372.1 && (bt364.2.1 == bt372.2.1 && (bt364.2.2.1 == bt372.2.2.1 && (bt364.2.2.2.1 == bt372.2.2.2.1 && (bt364.2.2.2.2.1 == bt372.2.2.2.2.1))))) = true then (if bt364.2.2.2.2.2.1.toList = bt372.2.2.2.2.2.1.toList then (if (bt364.2.2.2.2.2.2 == bt372.2.2.2.2.2.2) = true then (if bt380.1 = bt382.1 then (if (bt380.2 == bt382.2) = true then (if bt384.1 = bt386.1 then (some (bt384.2 == bt386.2)) else (some false)) else (some false)) else (some false)) else (some false)) else (some false)) else (some false)) else (some false)) else (some false)) else (some false)) else (some false)) else (some false)) else (some false)) else (some false)) else (some false)))) else (some false))))))))))))) = some true := H
    have A10 := Aside0.mk A100
    clear A100
    replace H := Option.bind_eq_some_iff.mp H
    obtain ⟨⟨t352, t353⟩, A110, H⟩ := H
    replace H : ((rule_Time.f k a1).bind fun bt354 => ((epactref17_Time.f k a1).bind fun bt357 => ((rule_Text.f k a0_0 a0_1 a0_2 a0_3 a0_4).bind fun bt360 => ((epactref17_Text.f k a0_0 a0_1 a0_2 a0_3 a0_4).bind fun bt362 => ((rule_Parse.f k a1).bind fun bt364 => ((epactref17_Parse.f k a1).bind fun bt372 => ((rule_At.f k a0_0 a0_1 a0_2 a0_3 a0_4 a3).bind fun bt380 => ((epactref17_At.f k a0_0 a0_1 a0_2 a0_3 a0_4 a3).bind fun bt382 => ((rule_Day.f k a0_0 a0_1 a0_2 a0_3 a0_4 a3).bind fun bt384 => ((epactref17_Day.f k a0_0 a0_1 a0_2 a0_3 a0_4 a3).bind fun bt386 => (if t349 = true then ((rule_Right.f a0_0 a0_1 a0_2 a0_3 a0_4).bind fun t388 => ((epactref17_Right.f k a0_0 a0_1 a0_2 a0_3 a0_4).bind fun t389 => (if (t388 == t389) = true then (if t350.toList = t352.toList then (if (t351 == t353) = true then (if bt354.1 = bt357.1 then (if bt354.2.1.toList = bt357.2.1.toList then (if (bt354.2.2 == bt357.2.2) = true then (if bt360.1.toList = bt362.1.toList then (if (bt360.2 == bt362.2) = true then (if (bt364.1 == bt372.1 && (bt364.2.1 == bt372.2.1 && (bt364.2.2.1 == bt372.2.2.1 && (bt364.2.2.2.1 == bt372.2.2.2.1 && (bt364.2.2.2.2.1 == bt372.2.2.2.2.1))))) = true then (if bt364.2.2.2.2.2.1.toList = bt372.2.2.2.2.2.1.toList then (if (bt364.2.2.2.2.2.2 == bt372.2.2.2.2.2.2) = true then (if bt380.1 = bt382.1 then (if (bt380.2 == bt382.2) = true then (if bt384.1 = bt386.1 then (some (bt384.2 == bt386.2)) else (some false)) else (some false)) else (some false)) else (some false)) else (some false)) else (some false)) else (some false)) else (some false)) else (some false)) else (some false)) else (some false)) else (some false)) else (some false)) else (some false)))) else (some false)))))))))))) = some true := H
    have A11 := Aside0.mk A110
    clear A110
    replace H := Option.bind_eq_some_iff.mp H
    obtain ⟨⟨t354, t355, t356⟩, A120, H⟩ := H
    replace H : ((epactref17_Time.f k a1).bind fun bt357 => ((rule_Text.f k a0_0 a0_1 a0_2 a0_3 a0_4).bind fun bt360 => ((epactref17_Text.f k a0_0 a0_1 a0_2 a0_3 a0_4).bind fun bt362 => ((rule_Parse.f k a1).bind fun bt364 => ((epactref17_Parse.f k a1).bind fun bt372 => ((rule_At.f k a0_0 a0_1 a0_2 a0_3 a0_4 a3).bind fun bt380 => ((epactref17_At.f k a0_0 a0_1 a0_2 a0_3 a0_4 a3).bind fun bt382 => ((rule_Day.f k a0_0 a0_1 a0_2 a0_3 a0_4 a3).bind fun bt384 => ((epactref17_Day.f k a0_0 a0_1 a0_2 a0_3 a0_4 a3).bind fun bt386 => (if t349 = true then ((rule_Right.f a0_0 a0_1 a0_2 a0_3 a0_4).bind fun t388 => ((epactref17_Right.f k a0_0 a0_1 a0_2 a0_3 a0_4).bind fun t389 => (if (t388 == t389) = true then (if t350.toList = t352.toList then (if (t351 == t353) = true then (if t354 = bt357.1 then (if t355.toList = bt357.2.1.toList then (if (t356 == bt357.2.2) = true then (if bt360.1.toList = bt362.1.toList then (if (bt360.2 == bt362.2) = true then (if (bt364.1 == bt372.1 && (bt364.2.1 == bt372.2.1 && (bt364.2.2.1 == bt372.2.2.1 && (bt364.2.2.2.1 == bt372.2.2.2.1 && (bt364.2.2.2.2.1 == bt372.2.2.2.2.1))))) = true then (if bt364.2.2.2.2.2.1.toList = bt372.2.2.2.2.2.1.toList then (if (bt364.2.2.2.2.2.2 == bt372.2.2.2.2.2.2) = true then (if bt380.1 = bt382.1 then (if (bt380.2 == bt382.2) = true then (if bt384.1 = bt386.1 then (some (bt384.2 == bt386.2)) else (some false)) else (some false)) else (some false)) else (some false)) else (some false)) else (some false)) else (some false)) else (some false)) else (some false)) else (some false)) else (some false)) else (some false)) else (some false)) else (some false)))) else (some false))))))))))) = some true := H
    have A12 := Aside0.mk A120
    clear A120
    replace H := Option.bind_eq_some_iff.mp H
    obtain ⟨⟨t357, t358, t359⟩, A130, H⟩ := H
    replace H : ((rule_Text.f k a0_0 a0_1 a0_2 a0_3 a0_4).bind fun bt360 => ((epactref17_Text.f k a0_0 a0_1 a0_2 a0_3 a0_4).bind fun bt362 => ((rule_Parse.f k a1).bind fun bt364 => ((epactref17_Parse.f k a1).bind fun bt372 => ((rule_At.f k a0_0 a0_1 a0_2 a0_3 a0_4 a3).bind fun bt380 => ((epactref17_At.f k a0_0 a0_1 a0_2 a0_3 a0_4 a3).bind fun bt382 => ((rule_Day.f k a0_0 a0_1 a0_2 a0_3 a0_4 a3).bind fun bt384 => ((epactref17_Day.f k a0_0 a0_1 a0_2 a0_3 a0_4 a3).bind fun bt386 => (if t349 = true then ((rule_Right.f a0_0 a0_1 a0_2 a0_3 a0_4).bind fun t388 => ((epactref17_Right.f k a0_0 a0_1 a0_2 a0_3 a0_4).bind fun t389 => (if (t388 == t389) = true then (if t350.toList = t352.toList then (if (t351 == t353) = true then (if t354 = t357 then (if t355.toList = t358.toList then (if (t356 == t359) = true then (if bt360.1.toList = bt362.1.toList then (if (bt360.2 == bt362.2) = true then (if (bt364.1 == bt372.1 && (bt364.2.1 == bt372.2.1 && (bt364.2.2.1 == bt372.2.2.1 && (bt364.2.2.2.1 == bt372.2.2.2.1 && (bt364.2.2.2.2.1 == bt372.2.2.2.2.1))))) = true then (if bt364.2.2.2.2.2.1.toList = bt372.2.2.2.2.2.1.toList then (if (bt364.2.2.2.2.2.2 == bt372.2.2.2.2.2.2) = true then (if bt380.1 = bt382.1 then (if (bt380.2 == bt382.2) = true then (if bt384.1 = bt386.1 then (some (bt384.2 == bt386.2)) else (some false)) else (some false)) else (some false)) else (some false)) else (some false)) else (some false)) else (some false)) else (some false)) else (some false)) else (some false)) else (some false)) else (some false)) else (some false)) else (some false)))) else (some false)))))))))) = some true := H
    have A13 := Aside0.mk A130
    clear A130
    replace H := Option.bind_eq_some_iff.mp H
    obtain ⟨⟨t360, t361⟩, A140, H⟩ := H
    replace H : ((epactref17_Text.f k a0_0 a0_1 a0_2 a0_3 a0_4).bind fun bt362 => ((rule_Parse.f k a1).bind fun bt364 => ((epactref17_Parse.f k a1).bind fun bt372 => ((rule_At.f k a0_0 a0_1 a0_2 a0_3 a0_4 a3).bind fun bt380 => ((epactref17_At.f k a0_0 a0_1 a0_2 a0_3 a0_4 a3).bind fun bt382 => ((rule_Day.f k a0_0 a0_1 a0_2 a0_3 a0_4 a3).bind fun bt384 => ((epactref17_Day.f k a0_0 a0_1 a0_2 a0_3 a0_4 a3).bind fun bt386 => (if t349 = true then ((rule_Right.f a0_0 a0_1 a0_2 a0_3 a0_4).bind fun t388 => ((epactref17_Right.f k a0_0 a0_1 a0_2 a0_3 a0_4).bind fun t389 => (if (t388 == t389) = true then (if t350.toList = t352.toList then (if (t351 == t353) = true then (if t354 = t357 then (if t355.toList = t358.toList then (if (t356 == t359) = true then (if t360.toList = bt362.1.toList then (if (t361 == bt362.2) = true then (if (bt364.1 == bt372.1 && (bt364.2.1 == bt372.2.1 && (bt364.2.2.1 == bt372.2.2.1 && (bt364.2.2.2.1 == bt372.2.2.2.1 && (bt364.2.2.2.2.1 == bt372.2.2.2.2.1))))) = true then (if bt364.2.2.2.2.2.1.toList = bt372.2.2.2.2.2.1.toList then (if (bt364.2.2.2.2.2.2 == bt372.2.2.2.2.2.2) = true then (if bt380.1 = bt382.1 then (if (bt380.2 == bt382.2) = true then (if bt384.1 = bt386.1 then (some (bt384.2 == bt386.2)) else (some false)) else (some false)) else (some false)) else (some false)) else (some false)) else (some false)) else (some false)) else (some false)) else (some false)) else (some false)) else (some false)) else (some false)) else (some false)) else (some false)))) else (some false))))))))) = some true := H
    have A14 := Aside0.mk A140
    clear A140
    replace H := Option.bind_eq_some_iff.mp H
    obtain ⟨⟨t362, t363⟩, A150, H⟩ := H
    replace H : ((rule_Parse.f k a1).bind fun bt364 => ((epactref17_Parse.f k a1).bind fun bt372 => ((rule_At.f k a0_0 a0_1 a0_2 a0_3 a0_4 a3).bind fun bt380 => ((epactref17_At.f k a0_0 a0_1 a0_2 a0_3 a0_4 a3).bind fun bt382 => ((rule_Day.f k a0_0 a0_1 a0_2 a0_3 a0_4 a3).bind fun bt384 => ((epactref17_Day.f k a0_0 a0_1 a0_2 a0_3 a0_4 a3).bind fun bt386 => (if t349 = true then ((rule_Right.f a0_0 a0_1 a0_2 a0_3 a0_4).bind fun t388 => ((epactref17_Right.f k a0_0 a0_1 a0_2 a0_3 a0_4).bind fun t389 => (if (t388 == t389) = true then (if t350.toList = t352.toList then (if (t351 == t353) = true then (if t354 = t357 then (if t355.toList = t358.toList then (if (t356 == t359) = true then (if t360.toList = t362.toList then (if (t361 == t363) = true then (if (bt364.1 == bt372.1 && (bt364.2.1 == bt372.2.1 && (bt364.2.2.1 == bt372.2.2.1 && (bt364.2.2.2.1 == bt372.2.2.2.1 && (bt364.2.2.2.2.1 == bt372.2.2.2.2.1))))) = true then (if bt364.2.2.2.2.2.1.toList = bt372.2.2.2.2.2.1.toList then (if (bt364.2.2.2.2.2.2 == bt372.2.2.2.2.2.2) = true then (if bt380.1 = bt382.1 then (if (bt380.2 == bt382.2) = true then (if bt384.1 = bt386.1 then (some (bt384.2 == bt386.2)) else (some false)) else (some false)) else (some false)) else (some false)) else (some false)) else (some false)) else (some false)) else (some false)) else (some false)) else (some false)) else (some false)) else (some false)) else (some false)) else (some false)))) else (some false)))))))) = some true := H
    have A15 := Aside0.mk A150
    clear A150
    replace H := Option.bind_eq_some_iff.mp H
    obtain ⟨⟨t364, t365, t366, t367, t368, t369, t370⟩, A160, H⟩ := H
    replace H : ((epactref17_Parse.f k a1).bind fun bt372 => ((rule_At.f k a0_0 a0_1 a0_2 a0_3 a0_4 a3).bind fun bt380 => ((epactref17_At.f k a0_0 a0_1 a0_2 a0_3 a0_4 a3).bind fun bt382 => ((rule_Day.f k a0_0 a0_1 a0_2 a0_3 a0_4 a3).bind fun bt384 => ((epactref17_Day.f k a0_0 a0_1 a0_2 a0_3 a0_4 a3).bind fun bt386 => (if t349 = true then ((rule_Right.f a0_0 a0_1 a0_2 a0_3 a0_4).bind fun t388 => ((epactref17_Right.f k a0_0 a0_1 a0_2 a0_3 a0_4).bind fun t389 => (if (t388 == t389) = true then (if t350.toList = t352.toList then (if (t351 == t353) = true then (if t354 = t357 then (if t355.toList = t358.toList then (if (t356 == t359) = true then (if t360.toList = t362.toList then (if (t361 == t363) = true then (if (t364 == bt372.1 && (t365 == bt372.2.1 && (t366 == bt372.2.2.1 && (t367 == bt372.2.2.2.1 && (t368 == bt372.2.2.2.2.1))))) = true then (if t369.toList = bt372.2.2.2.2.2.1.toList then (if (t370 == bt372.2.2.2.2.2.2) = true then (if bt380.1 = bt382.1 then (if (bt380.2 == bt382.2) = true then (if bt384.1 = bt386.1 then (some (bt384.2 == bt386.2)) else (some false)) else (some false)) else (some false)) else (some false)) else (some false)) else (some false)) else (some false)) else (some false)) else (some false)) else (some false)) else (some false)) else (some false)) else (some false)) else (some false)))) else (some false))))))) = some true := H
    have A16 := Aside0.mk A160
    clear A160
    replace H := Option.bind_eq_some_iff.mp H
    obtain ⟨⟨t372, t373, t374, t375, t376, t377, t378⟩, A170, H⟩ := H
    replace H : ((rule_At.f k a0_0 a0_1 a0_2 a0_3 a0_4 a3).bind fun bt380 => ((epactref17_At.f k a0_0 a0_1 a0_2 a0_3 a0_4 a3).bind fun bt382 => ((rule_Day.f k a0_0 a0_1 a0_2 a0_3 a0_4 a3).bind fun bt384 => ((epactref17_Day.f k a0_0 a0_1 a0_2 a0_3 a0_4 a3).bind fun bt386 => (if t349 = true then ((rule_Right.f a0_0 a0_1 a0_2 a0_3 a0_4).bind fun t388 => ((epactref17_Right.f k a0_0 a0_1 a0_2 a0_3 a0_4).bind fun t389 => (if (t388 == t389) = true then (if t350.toList = t352.toList then (if (t351 == t353) = true then (if t354 = t357 then (if t355.toList = t358.toList then (if (t356 == t359) = true then (if t360.toList = t362.toList then (if (t361 == t363) = true then (if (t364 == t372 && (t365 == t373 && (t366 == t374 && (t367 == t375 && (t368 == t376))))) = true then (if t369.toList = t377.toList then (if (t370 == t378) = true then (if bt380.1 = bt382.1 then (if (bt380.2 == bt382.2) = true then (if bt384.1 = bt386.1 then (some (bt384.2 == bt386.2)) else (some false)) else (some false)) else (some false)) else (some false)) else (some false)) else (some false)) else (some false)) else (some false)) else (some false)) else (some false)) else (some false)) else (some false)) else (some false)) else (some false)))) else (some false)))))) = some true := H
    have A17 := Aside0.mk A170
    clear A170
    replace H := Option.bind_eq_some_iff.mp H
    obtain ⟨⟨t380, t381⟩, A180, H⟩ := H
    replace H : ((epactref17_At.f k a0_0 a0_1 a0_2 a0_3 a0_4 a3).bind fun bt382 => ((rule_Day.f k a0_0 a0_1 a0_2 a0_3 a0_4 a3).bind fun bt384 => ((epactref17_Day.f k a0_0 a0_1 a0_2 a0_3 a0_4 a3).bind fun bt386 => (if t349 = true then ((rule_Right.f a0_0 a0_1 a0_2 a0_3 a0_4).bind fun t388 => ((epactref17_Right.f k a0_0 a0_1 a0_2 a0_3 a0_4).bind fun t389 => (if (t388 == t389) = true then (if t350.toList = t352.toList then (if (t351 == t353) = true then (if t354 = t357 then (if t355.toList = t358.toList then (if (t356 == t359) = true then (if t360.toList = t362.toList then (if (t361 == t363) = true then (if (t364 == t372 && (t365 == t373 && (t366 == t374 && (t367 == t375 && (t368 == t376))))) = true then (if t369.toList = t377.toList then (if (t370 == t378) = true then (if t380 = bt382.1 then (if (t381 == bt382.2) = true then (if bt384.1 = bt386.1 then (some (bt384.2 == bt386.2)) else (some false)) else (some false)) else (some false)) else (some false)) else (some false)) else (some false)) else (some false)) else (some false)) else (some false)) else (some false)) else (some false)) else (some false)) else (some false)) else (some false)))) else (some false))))) = some true := H
    have A18 := Aside0.mk A180
    clear A180
    replace H := Option.bind_eq_some_iff.mp H
    obtain ⟨⟨t382, t383⟩, A190, H⟩ := H
    replace H : ((rule_Day.f k a0_0 a0_1 a0_2 a0_3 a0_4 a3).bind fun bt384 => ((epactref17_Day.f k a0_0 a0_1 a0_2 a0_3 a0_4 a3).bind fun bt386 => (if t349 = true then ((rule_Right.f a0_0 a0_1 a0_2 a0_3 a0_4).bind fun t388 => ((epactref17_Right.f k a0_0 a0_1 a0_2 a0_3 a0_4).bind fun t389 => (if (t388 == t389) = true then (if t350.toList = t352.toList then (if (t351 == t353) = true then (if t354 = t357 then (if t355.toList = t358.toList then (if (t356 == t359) = true then (if t360.toList = t362.toList then (if (t361 == t363) = true then (if (t364 == t372 && (t365 == t373 && (t366 == t374 && (t367 == t375 && (t368 == t376))))) = true then (if t369.toList = t377.toList then (if (t370 == t378) = true then (if t380 = t382 then (if (t381 == t383) = true then (if bt384.1 = bt386.1 then (some (bt384.2 == bt386.2)) else (some false)) else (some false)) else (some false)) else (some false)) else (some false)) else (some false)) else (some false)) else (some false)) else (some false)) else (some false)) else (some false)) else (some false)) else (some false)) else (some false)))) else (some false)))) = some true := H
    have A19 := Aside0.mk A190
    clear A190
    replace H := Option.bind_eq_some_iff.mp H
    obtain ⟨⟨t384, t385⟩, A200, H⟩ := H
    replace H : ((epactref17_Day.f k a0_0 a0_1 a0_2 a0_3 a0_4 a3).bind fun bt386 => (if t349 = true then ((rule_Right.f a0_0 a0_1 a0_2 a0_3 a0_4).bind fun t388 => ((epactref17_Right.f k a0_0 a0_1 a0_2 a0_3 a0_4).bind fun t389 => (if (t388 == t389) = true then (if t350.toList = t352.toList then (if (t351 == t353) = true then (if t354 = t357 then (if t355.toList = t358.toList then (if (t356 == t359) = true then (if t360.toList = t362.toList then (if (t361 == t363) = true then (if (t364 == t372 && (t365 == t373 && (t366 == t374 && (t367 == t375 && (t368 == t376))))) = true then (if t369.toList = t377.toList then (if (t370 == t378) = true then (if t380 = t382 then (if (t381 == t383) = true then (if t384 = bt386.1 then (some (t385 == bt386.2)) else (some false)) else (some false)) else (some false)) else (some false)) else (some false)) else (some false)) else (some false)) else (some false)) else (some false)) else (some false)) else (some false)) else (some false)) else (some false)) else (some false)))) else (some false))) = some true := H
    have A20 := Aside0.mk A200
    clear A200
    replace H := Option.bind_eq_some_iff.mp H
    obtain ⟨⟨t386, t387⟩, A210, H⟩ := H
    replace H : (if t349 = true then ((rule_Right.f a0_0 a0_1 a0_2 a0_3 a0_4).bind fun t388 => ((epactref17_Right.f k a0_0 a0_1 a0_2 a0_3 a0_4).bind fun t389 => (if (t388 == t389) = true then (if t350.toList = t352.toList then (if (t351 == t353) = true then (if t354 = t357 then (if t355.toList = t358.toList then (if (t356 == t359) = true then (if t360.toList = t362.toList then (if (t361 == t363) = true then (if (t364 == t372 && (t365 == t373 && (t366 == t374 && (t367 == t375 && (t368 == t376))))) = true then (if t369.toList = t377.toList then (if (t370 == t378) = true then (if t380 = t382 then (if (t381 == t383) = true then (if t384 = t386 then (some (t385 == t387)) else (some false)) else (some false)) else (some false)) else (some false)) else (some false)) else (some false)) else (some false)) else (some false)) else (some false)) else (some false)) else (some false)) else (some false)) else (some false)) else (some false)))) else (some false)) = some true := H
    have A21 := Aside0.mk A210
    clear A210
    by_cases c22 : t349 = true
    · subst c22
      have H1 : ((rule_Right.f a0_0 a0_1 a0_2 a0_3 a0_4).bind fun t388 => ((epactref17_Right.f k a0_0 a0_1 a0_2 a0_3 a0_4).bind fun t389 => (if (t388 == t389) = true then (if t350.toList = t352.toList then (if (t351 == t353) = true then (if t354 = t357 then (if t355.toList = t358.toList then (if (t356 == t359) = true then (if t360.toList = t362.toList then (if (t361 == t363) = true then (if (t364 == t372 && (t365 == t373 && (t366 == t374 && (t367 == t375 && (t368 == t376))))) = true then (if t369.toList = t377.toList then (if (t370 == t378) = true then (if t380 = t382 then (if (t381 == t383) = true then (if t384 = t386 then (some (t385 == t387)) else (some false)) else (some false)) else (some false)) else (some false)) else (some false)) else (some false)) else (some false)) else (some false)) else (some false)) else (some false)) else (some false)) else (some false)) else (some false)) else (some false)))) = some true := by rw [if_pos rfl] at H; exact H
      clear H
      have H := H1
      clear H1
      replace H := Option.bind_eq_some_iff.mp H
      obtain ⟨t388, A230, H⟩ := H
      replace H : ((epactref17_Right.f k a0_0 a0_1 a0_2 a0_3 a0_4).bind fun t389 => (if (t388 == t389) = true then (if t350.toList = t352.toList then (if (t351 == t353) = true then (if t354 = t357 then (if t355.toList = t358.toList then (if (t356 == t359) = true then (if t360.toList = t362.toList then (if (t361 == t363) = true then (if (t364 == t372 && (t365 == t373 && (t366 == t374 && (t367 == t375 && (t368 == t376))))) = true then (if t369.toList = t377.toList then (if (t370 == t378) = true then (if t380 = t382 then (if (t381 == t383) = true then (if t384 = t386 then (some (t385 == t387)) else (some false)) else (some false)) else (some false)) else (some false)) else (some false)) else (some false)) else (some false)) else (some false)) else (some false)) else (some false)) else (some false)) else (some false)) else (some false)) else (some false))) = some true := H
      have A23 := Aside0.mk A230
      clear A230
      replace H := Option.bind_eq_some_iff.mp H
      obtain ⟨t389, A240, H⟩ := H
      replace H : (if (t388 == t389) = true then (if t350.toList = t352.toList then (if (t351 == t353) = true then (if t354 = t357 then (if t355.toList = t358.toList then (if (t356 == t359) = true then (if t360.toList = t362.toList then (if (t361 == t363) = true then (if (t364 == t372 && (t365 == t373 && (t366 == t374 && (t367 == t375 && (t368 == t376))))) = true then (if t369.toList = t377.toList then (if (t370 == t378) = true then (if t380 = t382 then (if (t381 == t383) = true then (if t384 = t386 then (some (t385 == t387)) else (some false)) else (some false)) else (some false)) else (some false)) else (some false)) else (some false)) else (some false)) else (some false)) else (some false)) else (some false)) else (some false)) else (some false)) else (some false)) else (some false)) = some true := H
      have A24 := Aside0.mk A240
      clear A240
      by_cases c25 : (t388 == t389) = true
      · rw [if_pos c25] at H
        have c25b0 : (t388 == t389) = true := c25
        (try (have c25b1 : decide (t388 = t389) = true := by simpa using c25))
        (try (have c25b2 : (t388 == t389) = true := by simpa using c25))
        clear c25
        by_cases c26 : t350.toList = t352.toList
        · rw [if_pos c26] at H
          have c26b0 : (t350.toList == t352.toList) = true := beq_iff_eq.mpr c26
          have c26b1 : (t350.toList != t352.toList) = false := bne_eq_false_iff_eq.mpr c26
          clear c26
          by_cases c27 : (t351 == t353) = true
          · rw [if_pos c27] at H
            have c27b0 : (t351 == t353) = true := c27
            (try (have c27b1 : decide (t351 = t353) = true := by simpa using c27))
            (try (have c27b2 : (t351 == t353) = true := by simpa using c27))
            clear c27
            by_cases c28 : t354 = t357
            · rw [if_pos c28] at H
              have c28b0 : (t354 == t357) = true := beq_iff_eq.mpr c28
              have c28b1 : (t354 != t357) = false := bne_eq_false_iff_eq.mpr c28
              clear c28
              by_cases c29 : t355.toList = t358.toList
              · rw [if_pos c29] at H
                have c29b0 : (t355.toList == t358.toList) = true := beq_iff_eq.mpr c29
                have c29b1 : (t355.toList != t358.toList) = false := bne_eq_false_iff_eq.mpr c29
                clear c29
                by_cases c30 : (t356 == t359) = true
                · rw [if_pos c30] at H
                  have c30b0 : (t356 == t359) = true := c30
                  (try (have c30b1 : decide (t356 = t359) = true := by simpa using c30))
                  (try (have c30b2 : (t356 == t359) = true := by simpa using c30))
                  clear c30
                  by_cases c31 : t360.toList = t362.toList
                  · rw [if_pos c31] at H
                    have c31b0 : (t360.toList == t362.toList) = true := beq_iff_eq.mpr c31
                    have c31b1 : (t360.toList != t362.toList) = false := bne_eq_false_iff_eq.mpr c31
                    clear c31
                    by_cases c32 : (t361 == t363) = true
                    · rw [if_pos c32] at H
                      have c32b0 : (t361 == t363) = true := c32
                      (try (have c32b1 : decide (t361 = t363) = true := by simpa using c32))
                      (try (have c32b2 : (t361 == t363) = true := by simpa using c32))
                      clear c32
                      by_cases c33 : (t364 == t372 && (t365 == t373 && (t366 == t374 && (t367 == t375 && (t368 == t376))))) = true
                      · rw [if_pos c33] at H
                        have c33b0 : (t364 == t372 && (t365 == t373 && (t366 == t374 && (t367 == t375 && (t368 == t376))))) = true := c33
                        (try (have c33b1 : decide (t364 = t372 && (t365 == t373 && (t366 == t374 && (t367 == t375 && (t368 == t376))))) = true := by simpa using c33))
                        (try (have c33b2 : (t364 == t372 && (t365 == t373 && (t366 == t374 && (t367 == t375 && (t368 == t376))))) = true := by simpa using c33))
                        clear c33
                        by_cases c34 : t369.toList = t377.toList
                        · rw [if_pos c34] at H
                          have c34b0 : (t369.toList == t377.toList) = true := beq_iff_eq.mpr c34
                          have c34b1 : (t369.toList != t377.toList) = false := bne_eq_false_iff_eq.mpr c34
                          clear c34
                          by_cases c35 : (t370 == t378) = true
                          · rw [if_pos c35] at H
                            have c35b0 : (t370 == t378) = true := c35
                            (try (have c35b1 : decide (t370 = t378) = true := by simpa using c35))
                            (try (have c35b2 : (t370 == t378) = true := by simpa using c35))
                            clear c35
                            by_cases c36 : t380 = t382
                            · rw [if_pos c36] at H
                              have c36b0 : (t380 == t382) = true := beq_iff_eq.mpr c36
                              have c36b1 : (t380 != t382) = false := bne_eq_false_iff_eq.mpr c36
                              clear c36
                              by_cases c37 : (t381 == t383) = true
                              · rw [if_pos c37] at H
                                have c37b0 : (t381 == t383) = true := c37
                                (try (have c37b1 : decide (t381 = t383) = true := by simpa using c37))
                                (try (have c37b2 : (t381 == t383) = true := by simpa using c37))
                                clear c37
                                by_cases c38 : t384 = t386
                                · rw [if_pos c38] at H
                                  have c38b0 : (t384 == t386) = true := beq_iff_eq.mpr c38
                                  have c38b1 : (t384 != t386) = false := bne_eq_false_iff_eq.mpr c38
                                  clear c38
                                  have hT := Option.some.inj H
                                  clear H
                                  try have hT2 : ((t385 == t387)) = true := by simpa using hT
                                  go_enter Tryd.func7, Tryd.ntmps7
                                  try go_wp2_with (first | ((with_reducible refine gate_dst (N := 4) rfl ?_); refine box_event ?hg (N := 4) ?hd (cs := #[.int .i64 a0_0, .int .i64 a0_1, .int .i64 a0_2, .int .i64 a0_3, .int .i64 a0_4]) (t := 42) ?hr ?_; (case hd => rfl); (case hg => rfl); (case hr => first | (go_simp; done) | (go_simp; rfl)); intro gb348 hg w39 hbox hb; have n0_ := Aside0.mk (below_step (by repeat (first | (with_reducible first | exact HB.out | apply ba | apply bn | apply bd) | exact HB.out)) hb); have n1_ := Aside0.mk (hbox); have n2_ := Aside0.mk ((by rw [hg]; exact (below_size (by repeat (first | (with_reducible first | exact HB.out | apply ba | apply bn | apply bd) | exact HB.out))) : w.heap.size ≤ gb348)); have n3_ := Aside0.mk ((by rw [hg]; exact (below_size (by repeat (first | (with_reducible first | exact HB.out | apply ba | apply bn | apply bd) | exact HB.out))) : w.heap.size ≤ gb348)); clear HB; have HB := n0_; have BK348 := n1_; have GW348 := n2_; have GE348 := n3_; clear n0_ n1_ n2_ n3_; clear hb hbox hg) | ((with_reducible refine gate_callee (f := 21) rfl ?_); refine goesL_ (some 38) rfl rfl Tryd.func21 (by kernel_rfl) rfl #[] rfl (by (try simp only [List.map_toArray, List.map_cons, List.map_nil]); first | done | rfl | (simp only [List.length_drop, List.length_take]; rfl)) ?_; (with_reducible refine (epactlaw17_smallF.calls  true _ ?side740 A5.out).mono ?_); (case side740 => refine hG.below ?_; repeat (first | (with_reducible first | exact HB.out | apply below_alloc | apply pw_below_drewN | apply below_drew1 | refine below_set ?_ GE348.out) | exact HB.out)); rintro e w41 ⟨rfl, hb⟩; refine ⟨_, rfl, ?_⟩; have n0_ := Aside0.mk (blk_below (g := gb348) (o := .cells #[.int .i64 a0_0, .int .i64 a0_1, .int .i64 a0_2, .int .i64 a0_3, .int .i64 a0_4] 42 (0, 0)) (by (with_reducible repeat (first | refine blk_drewN ?_ _ | refine blk_drew ?_ | refine blk_alloc ?_ _)); exact BK348.out) hb); have n1_ := Aside0.mk (below_step (by repeat (first | (with_reducible first | exact HB.out | apply below_alloc | apply pw_below_drewN | apply below_drew1 | refine below_set ?_ GE348.out) | exact HB.out)) hb); clear BK348; clear HB; have BK348 := n0_; have HB := n1_; clear n0_ n1_; (try clear hb)) | ((with_reducible refine gate_callee (f := 22) rfl ?_); refine goesL_ (some 45) rfl rfl Tryd.func22 (by kernel_rfl) rfl #[.int .i64 a2] rfl (by (try simp only [List.map_toArray, List.map_cons, List.map_nil]); first | done | rfl | (simp only [List.length_drop, List.length_take]; rfl)) ?_; (with_reducible refine (rule_Clock.calls k a2 t350 t351 _ ?side742 A10.out).mono ?_); (case side742 => refine hG.below ?_; repeat (first | (with_reducible first | exact HB.out | apply below_alloc | apply pw_below_drewN | apply below_drew1 | refine below_set ?_ GE348.out) | exact HB.out)); rintro e w43 ⟨rfl, hb⟩; refine ⟨_, rfl, ?_⟩; have n0_ := Aside0.mk (blk_below (g := gb348) (o := .cells #[.int .i64 a0_0, .int .i64 a0_1, .int .i64 a0_2, .int .i64 a0_3, .int .i64 a0_4] 42 (0, 0)) (by (with_reducible repeat (first | refine blk_drewN ?_ _ | refine blk_drew ?_ | refine blk_alloc ?_ _)); exact BK348.out) hb); have n1_ := Aside0.mk (below_step (by repeat (first | (with_reducible first | exact HB.out | apply below_alloc | apply pw_below_drewN | apply below_drew1 | refine below_set ?_ GE348.out) | exact HB.out)) hb); clear BK348; clear HB; have BK348 := n0_; have HB := n1_; clear n0_ n1_; (try clear hb)) | ((with_reducible refine gate_callee (f := 23) rfl ?_); refine goesL_ (some 50) rfl rfl Tryd.func23 (by kernel_rfl) rfl #[.int .i64 a2] rfl (by (try simp only [List.map_toArray, List.map_cons, List.map_nil]); first | done | rfl | (simp only [List.length_drop, List.length_take]; rfl)) ?_; (with_reducible refine (epactref17_Clock.calls k a2 t352 t353 _ ?side744 A11.out).mono ?_); (case side744 => refine hG.below ?_; repeat (first | (with_reducible first | exact HB.out | apply below_alloc | apply pw_below_drewN | apply below_drew1 | refine below_set ?_ GE348.out) | exact HB.out)); rintro e w45 ⟨rfl, hb⟩; refine ⟨_, rfl, ?_⟩; have n0_ := Aside0.mk (blk_below (g := gb348) (o := .cells #[.int .i64 a0_0, .int .i64 a0_1, .int .i64 a0_2, .int .i64 a0_3, .int .i64 a0_4] 42 (0, 0)) (by (with_reducible repeat (first | refine blk_drewN ?_ _ | refine blk_drew ?_ | refine blk_alloc ?_ _)); exact BK348.out) hb); have n1_ := Aside0.mk (below_step (by repeat (first | (with_reducible first | exact HB.out | apply below_alloc | apply pw_below_drewN | apply below_drew1 | refine below_set ?_ GE348.out) | exact HB.out)) hb); clear BK348; clear HB; have BK348 := n0_; have HB := n1_; clear n0_ n1_; (try clear hb)) | ((with_reducible refine gate_callee (f := 24) rfl ?_); refine goesL_ (some 55) rfl rfl Tryd.func24 (by kernel_rfl) rfl #[.string a1] rfl (by (try simp only [List.map_toArray, List.map_cons, List.map_nil]); first | done | rfl | (simp only [List.length_drop, List.length_take]; rfl)) ?_; (with_reducible refine (rule_Time.calls k a1 t354 t355 t356 _ ?side746 A12.out).mono ?_); (case side746 => refine hG.below ?_; repeat (first | (with_reducible first | exact HB.out | apply below_alloc | apply pw_below_drewN | apply below_drew1 | refine below_set ?_ GE348.out) | exact HB.out)); rintro e w47 ⟨rfl, hb⟩; refine ⟨_, rfl, ?_⟩; have n0_ := Aside0.mk (blk_below (g := gb348) (o := .cells #[.int .i64 a0_0, .int .i64 a0_1, .int .i64 a0_2, .int .i64 a0_3, .int .i64 a0_4] 42 (0, 0)) (by (with_reducible repeat (first | refine blk_drewN ?_ _ | refine blk_drew ?_ | refine blk_alloc ?_ _)); exact BK348.out) hb); have n1_ := Aside0.mk (below_step (by repeat (first | (with_reducible first | exact HB.out | apply below_alloc | apply pw_below_drewN | apply below_drew1 | refine below_set ?_ GE348.out) | exact HB.out)) hb); clear BK348; clear HB; have BK348 := n0_; have HB := n1_; clear n0_ n1_; (try clear hb)) | ((with_reducible refine gate_callee (f := 25) rfl ?_); refine goesL_ (some 61) rfl rfl Tryd.func25 (by kernel_rfl) rfl #[.string a1] rfl (by (try simp only [List.map_toArray, List.map_cons, List.map_nil]); first | done | rfl | (simp only [List.length_drop, List.length_take]; rfl)) ?_; (with_reducible refine (epactref17_Time.calls k a1 t357 t358 t359 _ ?side748 A13.out).mono ?_); (case side748 => refine hG.below ?_; repeat (first | (with_reducible first | exact HB.out | apply below_alloc | apply pw_below_drewN | apply below_drew1 | refine below_set ?_ GE348.out) | exact HB.out)); rintro e w' ⟨rfl, ⟨nd, rfl⟩⟩; refine ⟨_, rfl, ?_⟩; (try (rw [drewN_self w47]; generalize hq_ : World.drewN w47 _ = w47; have n0_ : Aside0 (w47.heap[gb348]? = some (.cells #[.int .i64 a0_0, .int .i64 a0_1, .int .i64 a0_2, .int .i64 a0_3, .int .i64 a0_4] 42 (0, 0))) := ⟨by rw [← hq_]; exact (by (with_reducible repeat (first | refine blk_drewN ?_ _ | refine blk_drew ?_ | refine blk_alloc ?_ _)); exact BK348.out)⟩; have n1_ : Aside0 (Below w.heap.size w w47) := ⟨by rw [← hq_]; exact (by repeat (first | (with_reducible first | exact HB.out | apply below_alloc | apply pw_below_drewN | apply below_drew1 | refine below_set ?_ GE348.out) | exact HB.out))⟩; clear BK348 HB hq_; have BK348 := n0_; have HB := n1_; clear n0_ n1_)); have hcz49_0 : w47.cell? ⟨gb348, 0, none⟩ = some (.int .i64 a0_0) := (blk_cell BK348.out 0).trans rfl; have hcz49_1 : w47.cell? ⟨gb348, 1, none⟩ = some (.int .i64 a0_1) := (blk_cell BK348.out 1).trans rfl; have hcz49_2 : w47.cell? ⟨gb348, 2, none⟩ = some (.int .i64 a0_2) := (blk_cell BK348.out 2).trans rfl; have hcz49_3 : w47.cell? ⟨gb348, 3, none⟩ = some (.int .i64 a0_3) := (blk_cell BK348.out 3).trans rfl; have hcz49_4 : w47.cell? ⟨gb348, 4, none⟩ = some (.int .i64 a0_4) := (blk_cell BK348.out 4).trans rfl; have hfz49_0 := blk_frozen BK348.out 0; have hfz49_1 := blk_frozen BK348.out 1; have hfz49_2 := blk_frozen BK348.out 2; have hfz49_3 := blk_frozen BK348.out 3; have hfz49_4 := blk_frozen BK348.out 4) | ((with_reducible refine gate_callee (f := 26) rfl ?_); refine goesL_ (some 67) rfl rfl Tryd.func26 (by kernel_rfl) rfl #[.agg #[.int .i64 a0_0, .int .i64 a0_1, .int .i64 a0_2, .int .i64 a0_3, .int .i64 a0_4]] rfl (by (try simp only [List.map_toArray, List.map_cons, List.map_nil]); first | done | rfl | (simp only [List.length_drop, List.length_take]; rfl)) ?_; (with_reducible refine (rule_Text.calls k a0_0 a0_1 a0_2 a0_3 a0_4 t360 t361 _ ?side750 A14.out).mono ?_); (case side750 => refine hG.below ?_; repeat (first | (with_reducible first | exact HB.out | apply below_alloc | apply pw_below_drewN | apply below_drew1 | refine below_set ?_ GE348.out) | exact HB.out)); rintro e w51 ⟨rfl, hb⟩; refine ⟨_, rfl, ?_⟩; have n0_ := Aside0.mk (blk_below (g := gb348) (o := .cells #[.int .i64 a0_0, .int .i64 a0_1, .int .i64 a0_2, .int .i64 a0_3, .int .i64 a0_4] 42 (0, 0)) (by (with_reducible repeat (first | refine blk_drewN ?_ _ | refine blk_drew ?_ | refine blk_alloc ?_ _)); exact BK348.out) hb); have n1_ := Aside0.mk (below_step (by repeat (first | (with_reducible first | exact HB.out | apply below_alloc | apply pw_below_drewN | apply below_drew1 | refine below_set ?_ GE348.out) | exact HB.out)) hb); clear BK348; clear HB; have BK348 := n0_; have HB := n1_; clear n0_ n1_; (try clear hb); have hcz52_0 : w51.cell? ⟨gb348, 0, none⟩ = some (.int .i64 a0_0) := (blk_cell BK348.out 0).trans rfl; have hcz52_1 : w51.cell? ⟨gb348, 1, none⟩ = some (.int .i64 a0_1) := (blk_cell BK348.out 1).trans rfl; have hcz52_2 : w51.cell? ⟨gb348, 2, none⟩ = some (.int .i64 a0_2) := (blk_cell BK348.out 2).trans rfl; have hcz52_3 : w51.cell? ⟨gb348, 3, none⟩ = some (.int .i64 a0_3) := (blk_cell BK348.out 3).trans rfl; have hcz52_4 : w51.cell? ⟨gb348, 4, none⟩ = some (.int .i64 a0_4) := (blk_cell BK348.out 4).trans rfl; have hfz52_0 := blk_frozen BK348.out 0; have hfz52_1 := blk_frozen BK348.out 1; have hfz52_2 := blk_frozen BK348.out 2; have hfz52_3 := blk_frozen BK348.out 3; have hfz52_4 := blk_frozen BK348.out 4) | ((with_reducible refine gate_callee (f := 27) rfl ?_); refine goesL_ (some 72) rfl rfl Tryd.func27 (by kernel_rfl) rfl #[.agg #[.int .i64 a0_0, .int .i64 a0_1, .int .i64 a0_2, .int .i64 a0_3, .int .i64 a0_4]] rfl (by (try simp only [List.map_toArray, List.map_cons, List.map_nil]); first | done | rfl | (simp only [List.length_drop, List.length_take]; rfl)) ?_; (with_reducible refine (epactref17_Text.calls k a0_0 a0_1 a0_2 a0_3 a0_4 t362 t363 _ ?side753 A15.out).mono ?_); (case side753 => refine hG.below ?_; repeat (first | (with_reducible first | exact HB.out | apply below_alloc | apply pw_below_drewN | apply below_drew1 | refine below_set ?_ GE348.out) | exact HB.out)); rintro e w54 ⟨rfl, hb⟩; refine ⟨_, rfl, ?_⟩; have n0_ := Aside0.mk (blk_below (g := gb348) (o := .cells #[.int .i64 a0_0, .int .i64 a0_1, .int .i64 a0_2, .int .i64 a0_3, .int .i64 a0_4] 42 (0, 0)) (by (with_reducible repeat (first | refine blk_drewN ?_ _ | refine blk_drew ?_ | refine blk_alloc ?_ _)); exact BK348.out) hb); have n1_ := Aside0.mk (below_step (by repeat (first | (with_reducible first | exact HB.out | apply below_alloc | apply pw_below_drewN | apply below_drew1 | refine below_set ?_ GE348.out) | exact HB.out)) hb); clear BK348; clear HB; have BK348 := n0_; have HB := n1_; clear n0_ n1_; (try clear hb)) | ((with_reducible refine gate_callee (f := 28) rfl ?_); refine goesL_ (some 77) rfl rfl Tryd.func28 (by kernel_rfl) rfl #[.string a1] rfl (by (try simp only [List.map_toArray, List.map_cons, List.map_nil]); first | done | rfl | (simp only [List.length_drop, List.length_take]; rfl)) ?_; (with_reducible refine (rule_Parse.calls k a1 t364 t365 t366 t367 t368 t369 t370 _ ?side755 A16.out).mono ?_); (case side755 => refine hG.below ?_; repeat (first | (with_reducible first | exact HB.out | apply below_alloc | apply pw_below_drewN | apply below_drew1 | refine below_set ?_ GE348.out) | exact HB.out)); rintro e w56 ⟨rfl, hb⟩; refine ⟨_, rfl, ?_⟩; have n0_ := Aside0.mk (blk_below (g := gb348) (o := .cells #[.int .i64 a0_0, .int .i64 a0_1, .int .i64 a0_2, .int .i64 a0_3, .int .i64 a0_4] 42 (0, 0)) (by (with_reducible repeat (first | refine blk_drewN ?_ _ | refine blk_drew ?_ | refine blk_alloc ?_ _)); exact BK348.out) hb); have n1_ := Aside0.mk (below_step (by repeat (first | (with_reducible first | exact HB.out | apply below_alloc | apply pw_below_drewN | apply below_drew1 | refine below_set ?_ GE348.out) | exact HB.out)) hb); clear BK348; clear HB; have BK348 := n0_; have HB := n1_; clear n0_ n1_; (try clear hb)) | ((with_reducible refine gate_dst (N := 24) rfl ?_); refine box_event ?hg (N := 24) ?hd (cs := #[.int .i64 0, .int .i64 0, .int .i64 0, .int .i64 0, .int .i64 0]) (t := 42) ?hr ?_; (case hd => rfl); (case hg => rfl); (case hr => first | (go_simp; done) | (go_simp; rfl)); intro gb371 hg w57 hbox hb; have n0_ := Aside0.mk (blk_below (g := gb348) (o := .cells #[.int .i64 a0_0, .int .i64 a0_1, .int .i64 a0_2, .int .i64 a0_3, .int .i64 a0_4] 42 (0, 0)) (by (with_reducible repeat (first | refine blk_drewN ?_ _ | refine blk_drew ?_ | refine blk_alloc ?_ _)); exact BK348.out) hb); have n1_ := Aside0.mk (below_step (by repeat (first | (with_reducible first | exact HB.out | apply below_alloc | apply pw_below_drewN | apply below_drew1 | refine below_set ?_ GE348.out) | exact HB.out)) hb); have n2_ := Aside0.mk (hbox); have n3_ := Aside0.mk ((by rw [hg]; exact (below_size (by repeat (first | (with_reducible first | exact HB.out | apply below_alloc | apply pw_below_drewN | apply below_drew1 | refine below_set ?_ GE348.out) | exact HB.out))) : w.heap.size ≤ gb371)); have n4_ := Aside0.mk ((by rw [hg]; exact (below_size (by repeat (first | (with_reducible first | exact HB.out | apply below_alloc | apply pw_below_drewN | apply below_drew1 | refine below_set ?_ GE348.out) | exact HB.out))) : w.heap.size ≤ gb371)); have n5_ := Aside0.mk ((by rw [hg]; exact Nat.ne_of_lt (blk_lt (g := gb348) (o := .cells #[.int .i64 a0_0, .int .i64 a0_1, .int .i64 a0_2, .int .i64 a0_3, .int .i64 a0_4] 42 (0, 0)) (by (with_reducible repeat (first | refine blk_drewN ?_ _ | refine blk_drew ?_ | refine blk_alloc ?_ _)); exact BK348.out)) : gb348 ≠ gb371)); have n6_ := Aside0.mk ((by rw [hg]; exact Nat.ne_of_gt (blk_lt (g := gb348) (o := .cells #[.int .i64 a0_0, .int .i64 a0_1, .int .i64 a0_2, .int .i64 a0_3, .int .i64 a0_4] 42 (0, 0)) (by (with_reducible repeat (first | refine blk_drewN ?_ _ | refine blk_drew ?_ | refine blk_alloc ?_ _)); exact BK348.out)) : gb371 ≠ gb348)); clear BK348; clear HB; have BK348 := n0_; have HB := n1_; have BK371 := n2_; have GW371 := n3_; have GE371 := n4_; have NB348_371 := n5_; have NB371_348 := n6_; clear n0_ n1_ n2_ n3_ n4_ n5_ n6_; clear hb hbox hg; have hnb58 := NB371_348.out; have hnc58 := NB348_371.out; have hcz59_0 : w57.cell? ⟨gb371, 0, none⟩ = some (.int .i64 0) := (blk_cell BK371.out 0).trans rfl; have hcz59_1 : w57.cell? ⟨gb371, 1, none⟩ = some (.int .i64 0) := (blk_cell BK371.out 1).trans rfl; have hcz59_2 : w57.cell? ⟨gb371, 2, none⟩ = some (.int .i64 0) := (blk_cell BK371.out 2).trans rfl; have hcz59_3 : w57.cell? ⟨gb371, 3, none⟩ = some (.int .i64 0) := (blk_cell BK371.out 3).trans rfl; have hcz59_4 : w57.cell? ⟨gb371, 4, none⟩ = some (.int .i64 0) := (blk_cell BK371.out 4).trans rfl; have hfz59_0 := blk_frozen BK371.out 0; have hfz59_1 := blk_frozen BK371.out 1; have hfz59_2 := blk_frozen BK371.out 2; have hfz59_3 := blk_frozen BK371.out 3; have hfz59_4 := blk_frozen BK371.out 4) | ((with_reducible refine gate_callee (f := 29) rfl ?_); refine goesL_ (some 83) rfl rfl Tryd.func29 (by kernel_rfl) rfl #[.string a1] rfl (by (try simp only [List.map_toArray, List.map_cons, List.map_nil]); first | done | rfl | (simp only [List.length_drop, List.length_take]; rfl)) ?_; (with_reducible refine (epactref17_Parse.calls k a1 t372 t373 t374 t375 t376 t377 t378 _ ?side760 A17.out).mono ?_); (case side760 => refine hG.below ?_; repeat (first | (with_reducible first | exact HB.out | apply below_alloc | apply pw_below_drewN | apply below_drew1 | refine below_set ?_ GE348.out | refine below_set ?_ GE371.out) | exact HB.out)); rintro e w61 ⟨rfl, hb⟩; refine ⟨_, rfl, ?_⟩; have n0_ := Aside0.mk (blk_below (g := gb348) (o := .cells #[.int .i64 a0_0, .int .i64 a0_1, .int .i64 a0_2, .int .i64 a0_3, .int .i64 a0_4] 42 (0, 0)) (by (with_reducible repeat (first | refine blk_drewN ?_ _ | refine blk_drew ?_ | refine blk_alloc ?_ _)); refine blk_far ?_ NB348_371.out _; (with_reducible repeat (first | refine blk_drewN ?_ _ | refine blk_drew ?_ | refine blk_alloc ?_ _)); refine blk_far ?_ NB348_371.out _; (with_reducible repeat (first | refine blk_drewN ?_ _ | refine blk_drew ?_ | refine blk_alloc ?_ _)); refine blk_far ?_ NB348_371.out _; (with_reducible repeat (first | refine blk_drewN ?_ _ | refine blk_drew ?_ | refine blk_alloc ?_ _)); refine blk_far ?_ NB348_371.out _; (with_reducible repeat (first | refine blk_drewN ?_ _ | refine blk_drew ?_ | refine blk_alloc ?_ _)); refine blk_far ?_ NB348_371.out _; (with_reducible repeat (first | refine blk_drewN ?_ _ | refine blk_drew ?_ | refine blk_alloc ?_ _)); exact BK348.out) hb); have n1_ := Aside0.mk (blk_below (g := gb371) (o := .cells #[.int .i64 t364, .int .i64 t365, .int .i64 t366, .int .i64 t367, .int .i64 t368] 42 (0, 0)) (by (with_reducible repeat (first | refine blk_drewN ?_ _ | refine blk_drew ?_ | refine blk_alloc ?_ _)); refine blk_put (cs := #[.int .i64 t364, .int .i64 t365, .int .i64 t366, .int .i64 t367, .int .i64 0]) ?_ 4 _ rfl; (with_reducible repeat (first | refine blk_drewN ?_ _ | refine blk_drew ?_ | refine blk_alloc ?_ _)); refine blk_put (cs := #[.int .i64 t364, .int .i64 t365, .int .i64 t366, .int .i64 0, .int .i64 0]) ?_ 3 _ rfl; (with_reducible repeat (first | refine blk_drewN ?_ _ | refine blk_drew ?_ | refine blk_alloc ?_ _)); refine blk_put (cs := #[.int .i64 t364, .int .i64 t365, .int .i64 0, .int .i64 0, .int .i64 0]) ?_ 2 _ rfl; (with_reducible repeat (first | refine blk_drewN ?_ _ | refine blk_drew ?_ | refine blk_alloc ?_ _)); refine blk_put (cs := #[.int .i64 t364, .int .i64 0, .int .i64 0, .int .i64 0, .int .i64 0]) ?_ 1 _ rfl; (with_reducible repeat (first | refine blk_drewN ?_ _ | refine blk_drew ?_ | refine blk_alloc ?_ _)); refine blk_put (cs := #[.int .i64 0, .int .i64 0, .int .i64 0, .int .i64 0, .int .i64 0]) ?_ 0 _ rfl; (with_reducible repeat (first | refine blk_drewN ?_ _ | refine blk_drew ?_ | refine blk_alloc ?_ _)); exact BK371.out) hb); have n2_ := Aside0.mk (below_step (by repeat (first | (with_reducible first | exact HB.out | apply below_alloc | apply pw_below_drewN | apply below_drew1 | refine below_set ?_ GE348.out | refine below_set ?_ GE371.out) | exact HB.out)) hb); clear BK348; clear BK371; clear HB; have BK348 := n0_; have BK371 := n1_; have HB := n2_; clear n0_ n1_ n2_; (try clear hb)) | ((with_reducible refine gate_dst (N := 27) rfl ?_); refine box_event ?hg (N := 27) ?hd (cs := #[.int .i64 0, .int .i64 0, .int .i64 0, .int .i64 0, .int .i64 0]) (t := 42) ?hr ?_; (case hd => rfl); (case hg => rfl); (case hr => first | (go_simp; done) | (go_simp; rfl)); intro gb379 hg w62 hbox hb; have n0_ := Aside0.mk (blk_below (g := gb348) (o := .cells #[.int .i64 a0_0, .int .i64 a0_1, .int .i64 a0_2, .int .i64 a0_3, .int .i64 a0_4] 42 (0, 0)) (by (with_reducible repeat (first | refine blk_drewN ?_ _ | refine blk_drew ?_ | refine blk_alloc ?_ _)); exact BK348.out) hb); have n1_ := Aside0.mk (blk_below (g := gb371) (o := .cells #[.int .i64 t364, .int .i64 t365, .int .i64 t366, .int .i64 t367, .int .i64 t368] 42 (0, 0)) (by (with_reducible repeat (first | refine blk_drewN ?_ _ | refine blk_drew ?_ | refine blk_alloc ?_ _)); exact BK371.out) hb); have n2_ := Aside0.mk (below_step (by repeat (first | (with_reducible first | exact HB.out | apply below_alloc | apply pw_below_drewN | apply below_drew1 | refine below_set ?_ GE348.out | refine below_set ?_ GE371.out) | exact HB.out)) hb); have n3_ := Aside0.mk (hbox); have n4_ := Aside0.mk ((by rw [hg]; exact (below_size (by repeat (first | (with_reducible first | exact HB.out | apply below_alloc | apply pw_below_drewN | apply below_drew1 | refine below_set ?_ GE348.out | refine below_set ?_ GE371.out) | exact HB.out))) : w.heap.size ≤ gb379)); have n5_ := Aside0.mk ((by rw [hg]; exact (below_size (by repeat (first | (with_reducible first | exact HB.out | apply below_alloc | apply pw_below_drewN | apply below_drew1 | refine below_set ?_ GE348.out | refine below_set ?_ GE371.out) | exact HB.out))) : w.heap.size ≤ gb379)); have n6_ := Aside0.mk ((by rw [hg]; exact Nat.ne_of_lt (blk_lt (g := gb348) (o := .cells #[.int .i64 a0_0, .int .i64 a0_1, .int .i64 a0_2, .int .i64 a0_3, .int .i64 a0_4] 42 (0, 0)) (by (with_reducible repeat (first | refine blk_drewN ?_ _ | refine blk_drew ?_ | refine blk_alloc ?_ _)); exact BK348.out)) : gb348 ≠ gb379)); have n7_ := Aside0.mk ((by rw [hg]; exact Nat.ne_of_gt (blk_lt (g := gb348) (o := .cells #[.int .i64 a0_0, .int .i64 a0_1, .int .i64 a0_2, .int .i64 a0_3, .int .i64 a0_4] 42 (0, 0)) (by (with_reducible repeat (first | refine blk_drewN ?_ _ | refine blk_drew ?_ | refine blk_alloc ?_ _)); exact BK348.out)) : gb379 ≠ gb348)); have n8_ := Aside0.mk ((by rw [hg]; exact Nat.ne_of_lt (blk_lt (g := gb371) (o := .cells #[.int .i64 t364, .int .i64 t365, .int .i64 t366, .int .i64 t367, .int .i64 t368] 42 (0, 0)) (by (with_reducible repeat (first | refine blk_drewN ?_ _ | refine blk_drew ?_ | refine blk_alloc ?_ _)); exact BK371.out)) : gb371 ≠ gb379)); have n9_ := Aside0.mk ((by rw [hg]; exact Nat.ne_of_gt (blk_lt (g := gb371) (o := .cells #[.int .i64 t364, .int .i64 t365, .int .i64 t366, .int .i64 t367, .int .i64 t368] 42 (0, 0)) (by (with_reducible repeat (first | refine blk_drewN ?_ _ | refine blk_drew ?_ | refine blk_alloc ?_ _)); exact BK371.out)) : gb379 ≠ gb371)); clear BK348; clear BK371; clear HB; have BK348 := n0_; have BK371 := n1_; have HB := n2_; have BK379 := n3_; have GW379 := n4_; have GE379 := n5_; have NB348_379 := n6_; have NB379_348 := n7_; have NB371_379 := n8_; have NB379_371 := n9_; clear n0_ n1_ n2_ n3_ n4_ n5_ n6_ n7_ n8_ n9_; clear hb hbox hg; have hnb63 := NB379_348.out; have hnc63 := NB348_379.out; have hnb64 := NB379_371.out; have hnc64 := NB371_379.out; have hcz65_0 : w62.cell? ⟨gb379, 0, none⟩ = some (.int .i64 0) := (blk_cell BK379.out 0).trans rfl; have hcz65_1 : w62.cell? ⟨gb379, 1, none⟩ = some (.int .i64 0) := (blk_cell BK379.out 1).trans rfl; have hcz65_2 : w62.cell? ⟨gb379, 2, none⟩ = some (.int .i64 0) := (blk_cell BK379.out 2).trans rfl; have hcz65_3 : w62.cell? ⟨gb379, 3, none⟩ = some (.int .i64 0) := (blk_cell BK379.out 3).trans rfl; have hcz65_4 : w62.cell? ⟨gb379, 4, none⟩ = some (.int .i64 0) := (blk_cell BK379.out 4).trans rfl; have hfz65_0 := blk_frozen BK379.out 0; have hfz65_1 := blk_frozen BK379.out 1; have hfz65_2 := blk_frozen BK379.out 2; have hfz65_3 := blk_frozen BK379.out 3; have hfz65_4 := blk_frozen BK379.out 4; have hcz66_0 : w62.cell? ⟨gb348, 0, none⟩ = some (.int .i64 a0_0) := (blk_cell BK348.out 0).trans rfl; have hcz66_1 : w62.cell? ⟨gb348, 1, none⟩ = some (.int .i64 a0_1) := (blk_cell BK348.out 1).trans rfl; have hcz66_2 : w62.cell? ⟨gb348, 2, none⟩ = some (.int .i64 a0_2) := (blk_cell BK348.out 2).trans rfl; have hcz66_3 : w62.cell? ⟨gb348, 3, none⟩ = some (.int .i64 a0_3) := (blk_cell BK348.out 3).trans rfl; have hcz66_4 : w62.cell? ⟨gb348, 4, none⟩ = some (.int .i64 a0_4) := (blk_cell BK348.out 4).trans rfl; have hfz66_0 := blk_frozen BK348.out 0; have hfz66_1 := blk_frozen BK348.out 1; have hfz66_2 := blk_frozen BK348.out 2; have hfz66_3 := blk_frozen BK348.out 3; have hfz66_4 := blk_frozen BK348.out 4) | ((with_reducible refine gate_callee (f := 30) rfl ?_); refine goesL_ (some 90) rfl rfl Tryd.func30 (by kernel_rfl) rfl #[.agg #[.int .i64 a0_0, .int .i64 a0_1, .int .i64 a0_2, .int .i64 a0_3, .int .i64 a0_4], .int .i64 a3] rfl (by (try simp only [List.map_toArray, List.map_cons, List.map_nil]); first | done | rfl | (simp only [List.length_drop, List.length_take]; rfl)) ?_; (with_reducible refine (rule_At.calls k a0_0 a0_1 a0_2 a0_3 a0_4 a3 t380 t381 _ ?side767 A18.out).mono ?_); (case side767 => refine hG.below ?_; repeat (first | (with_reducible first | exact HB.out | apply below_alloc | apply pw_below_drewN | apply below_drew1 | refine below_set ?_ GE348.out | refine below_set ?_ GE371.out | refine below_set ?_ GE379.out) | exact HB.out)); rintro e w68 ⟨rfl, hb⟩; refine ⟨_, rfl, ?_⟩; have n0_ := Aside0.mk (blk_below (g := gb348) (o := .cells #[.int .i64 a0_0, .int .i64 a0_1, .int .i64 a0_2, .int .i64 a0_3, .int .i64 a0_4] 42 (0, 0)) (by (with_reducible repeat (first | refine blk_drewN ?_ _ | refine blk_drew ?_ | refine blk_alloc ?_ _)); refine blk_far ?_ NB348_379.out _; (with_reducible repeat (first | refine blk_drewN ?_ _ | refine blk_drew ?_ | refine blk_alloc ?_ _)); refine blk_far ?_ NB348_379.out _; (with_reducible repeat (first | refine blk_drewN ?_ _ | refine blk_drew ?_ | refine blk_alloc ?_ _)); refine blk_far ?_ NB348_379.out _; (with_reducible repeat (first | refine blk_drewN ?_ _ | refine blk_drew ?_ | refine blk_alloc ?_ _)); refine blk_far ?_ NB348_379.out _; (with_reducible repeat (first | refine blk_drewN ?_ _ | refine blk_drew ?_ | refine blk_alloc ?_ _)); refine blk_far ?_ NB348_379.out _; (with_reducible repeat (first | refine blk_drewN ?_ _ | refine blk_drew ?_ | refine blk_alloc ?_ _)); exact BK348.out) hb); have n1_ := Aside0.mk (blk_below (g := gb371) (o := .cells #[.int .i64 t364, .int .i64 t365, .int .i64 t366, .int .i64 t367, .int .i64 t368] 42 (0, 0)) (by (with_reducible repeat (first | refine blk_drewN ?_ _ | refine blk_drew ?_ | refine blk_alloc ?_ _)); refine blk_far ?_ NB371_379.out _; (with_reducible repeat (first | refine blk_drewN ?_ _ | refine blk_drew ?_ | refine blk_alloc ?_ _)); refine blk_far ?_ NB371_379.out _; (with_reducible repeat (first | refine blk_drewN ?_ _ | refine blk_drew ?_ | refine blk_alloc ?_ _)); refine blk_far ?_ NB371_379.out _; (with_reducible repeat (first | refine blk_drewN ?_ _ | refine blk_drew ?_ | refine blk_alloc ?_ _)); refine blk_far ?_ NB371_379.out _; (with_reducible repeat (first | refine blk_drewN ?_ _ | refine blk_drew ?_ | refine blk_alloc ?_ _)); refine blk_far ?_ NB371_379.out _; (with_reducible repeat (first | refine blk_drewN ?_ _ | refine blk_drew ?_ | refine blk_alloc ?_ _)); exact BK371.out) hb); have n2_ := Aside0.mk (blk_below (g := gb379) (o := .cells #[.int .i64 t372, .int .i64 t373, .int .i64 t374, .int .i64 t375, .int .i64 t376] 42 (0, 0)) (by (with_reducible repeat (first | refine blk_drewN ?_ _ | refine blk_drew ?_ | refine blk_alloc ?_ _)); refine blk_put (cs := #[.int .i64 t372, .int .i64 t373, .int .i64 t374, .int .i64 t375, .int .i64 0]) ?_ 4 _ rfl; (with_reducible repeat (first | refine blk_drewN ?_ _ | refine blk_drew ?_ | refine blk_alloc ?_ _)); refine blk_put (cs := #[.int .i64 t372, .int .i64 t373, .int .i64 t374, .int .i64 0, .int .i64 0]) ?_ 3 _ rfl; (with_reducible repeat (first | refine blk_drewN ?_ _ | refine blk_drew ?_ | refine blk_alloc ?_ _)); refine blk_put (cs := #[.int .i64 t372, .int .i64 t373, .int .i64 0, .int .i64 0, .int .i64 0]) ?_ 2 _ rfl; (with_reducible repeat (first | refine blk_drewN ?_ _ | refine blk_drew ?_ | refine blk_alloc ?_ _)); refine blk_put (cs := #[.int .i64 t372, .int .i64 0, .int .i64 0, .int .i64 0, .int .i64 0]) ?_ 1 _ rfl; (with_reducible repeat (first | refine blk_drewN ?_ _ | refine blk_drew ?_ | refine blk_alloc ?_ _)); refine blk_put (cs := #[.int .i64 0, .int .i64 0, .int .i64 0, .int .i64 0, .int .i64 0]) ?_ 0 _ rfl; (with_reducible repeat (first | refine blk_drewN ?_ _ | refine blk_drew ?_ | refine blk_alloc ?_ _)); exact BK379.out) hb); have n3_ := Aside0.mk (below_step (by repeat (first | (with_reducible first | exact HB.out | apply below_alloc | apply pw_below_drewN | apply below_drew1 | refine below_set ?_ GE348.out | refine below_set ?_ GE371.out | refine below_set ?_ GE379.out) | exact HB.out)) hb); clear BK348; clear BK371; clear BK379; clear HB; have BK348 := n0_; have BK371 := n1_; have BK379 := n2_; have HB := n3_; clear n0_ n1_ n2_ n3_; (try clear hb); have hcz69_0 : w68.cell? ⟨gb348, 0, none⟩ = some (.int .i64 a0_0) := (blk_cell BK348.out 0).trans rfl; have hcz69_1 : w68.cell? ⟨gb348, 1, none⟩ = some (.int .i64 a0_1) := (blk_cell BK348.out 1).trans rfl; have hcz69_2 : w68.cell? ⟨gb348, 2, none⟩ = some (.int .i64 a0_2) := (blk_cell BK348.out 2).trans rfl; have hcz69_3 : w68.cell? ⟨gb348, 3, none⟩ = some (.int .i64 a0_3) := (blk_cell BK348.out 3).trans rfl; have hcz69_4 : w68.cell? ⟨gb348, 4, none⟩ = some (.int .i64 a0_4) := (blk_cell BK348.out 4).trans rfl; have hfz69_0 := blk_frozen BK348.out 0; have hfz69_1 := blk_frozen BK348.out 1; have hfz69_2 := blk_frozen BK348.out 2; have hfz69_3 := blk_frozen BK348.out 3; have hfz69_4 := blk_frozen BK348.out 4) | ((with_reducible refine gate_callee (f := 31) rfl ?_); refine goesL_ (some 96) rfl rfl Tryd.func31 (by kernel_rfl) rfl #[.agg #[.int .i64 a0_0, .int .i64 a0_1, .int .i64 a0_2, .int .i64 a0_3, .int .i64 a0_4], .int .i64 a3] rfl (by (try simp only [List.map_toArray, List.map_cons, List.map_nil]); first | done | rfl | (simp only [List.length_drop, List.length_take]; rfl)) ?_; (with_reducible refine (epactref17_At.calls k a0_0 a0_1 a0_2 a0_3 a0_4 a3 t382 t383 _ ?side770 A19.out).mono ?_); (case side770 => refine hG.below ?_; repeat (first | (with_reducible first | exact HB.out | apply below_alloc | apply pw_below_drewN | apply below_drew1 | refine below_set ?_ GE348.out | refine below_set ?_ GE371.out | refine below_set ?_ GE379.out) | exact HB.out)); rintro e w71 ⟨rfl, hb⟩; refine ⟨_, rfl, ?_⟩; have n0_ := Aside0.mk (blk_below (g := gb348) (o := .cells #[.int .i64 a0_0, .int .i64 a0_1, .int .i64 a0_2, .int .i64 a0_3, .int .i64 a0_4] 42 (0, 0)) (by (with_reducible repeat (first | refine blk_drewN ?_ _ | refine blk_drew ?_ | refine blk_alloc ?_ _)); exact BK348.out) hb); have n1_ := Aside0.mk (blk_below (g := gb371) (o := .cells #[.int .i64 t364, .int .i64 t365, .int .i64 t366, .int .i64 t367, .int .i64 t368] 42 (0, 0)) (by (with_reducible repeat (first | refine blk_drewN ?_ _ | refine blk_drew ?_ | refine blk_alloc ?_ _)); exact BK371.out) hb); have n2_ := Aside0.mk (blk_below (g := gb379) (o := .cells #[.int .i64 t372, .int .i64 t373, .int .i64 t374, .int .i64 t375, .int .i64 t376] 42 (0, 0)) (by (with_reducible repeat (first | refine blk_drewN ?_ _ | refine blk_drew ?_ | refine blk_alloc ?_ _)); exact BK379.out) hb); have n3_ := Aside0.mk (below_step (by repeat (first | (with_reducible first | exact HB.out | apply below_alloc | apply pw_below_drewN | apply below_drew1 | refine below_set ?_ GE348.out | refine below_set ?_ GE371.out | refine below_set ?_ GE379.out) | exact HB.out)) hb); clear BK348; clear BK371; clear BK379; clear HB; have BK348 := n0_; have BK371 := n1_; have BK379 := n2_; have HB := n3_; clear n0_ n1_ n2_ n3_; (try clear hb); have hcz72_0 : w71.cell? ⟨gb348, 0, none⟩ = some (.int .i64 a0_0) := (blk_cell BK348.out 0).trans rfl; have hcz72_1 : w71.cell? ⟨gb348, 1, none⟩ = some (.int .i64 a0_1) := (blk_cell BK348.out 1).trans rfl; have hcz72_2 : w71.cell? ⟨gb348, 2, none⟩ = some (.int .i64 a0_2) := (blk_cell BK348.out 2).trans rfl; have hcz72_3 : w71.cell? ⟨gb348, 3, none⟩ = some (.int .i64 a0_3) := (blk_cell BK348.out 3).trans rfl; have hcz72_4 : w71.cell? ⟨gb348, 4, none⟩ = some (.int .i64 a0_4) := (blk_cell BK348.out 4).trans rfl; have hfz72_0 := blk_frozen BK348.out 0; have hfz72_1 := blk_frozen BK348.out 1; have hfz72_2 := blk_frozen BK348.out 2; have hfz72_3 := blk_frozen BK348.out 3; have hfz72_4 := blk_frozen BK348.out 4) | ((with_reducible refine gate_callee (f := 32) rfl ?_); refine goesL_ (some 102) rfl rfl Tryd.func32 (by kernel_rfl) rfl #[.agg #[.int .i64 a0_0, .int .i64 a0_1, .int .i64 a0_2, .int .i64 a0_3, .int .i64 a0_4], .int .i64 a3] rfl (by (try simp only [List.map_toArray, List.map_cons, List.map_nil]); first | done | rfl | (simp only [List.length_drop, List.length_take]; rfl)) ?_; (with_reducible refine (rule_Day.calls k a0_0 a0_1 a0_2 a0_3 a0_4 a3 t384 t385 _ ?side773 A20.out).mono ?_); (case side773 => refine hG.below ?_; repeat (first | (with_reducible first | exact HB.out | apply below_alloc | apply pw_below_drewN | apply below_drew1 | refine below_set ?_ GE348.out | refine below_set ?_ GE371.out | refine below_set ?_ GE379.out) | exact HB.out)); rintro e w74 ⟨rfl, hb⟩; refine ⟨_, rfl, ?_⟩; have n0_ := Aside0.mk (blk_below (g := gb348) (o := .cells #[.int .i64 a0_0, .int .i64 a0_1, .int .i64 a0_2, .int .i64 a0_3, .int .i64 a0_4] 42 (0, 0)) (by (with_reducible repeat (first | refine blk_drewN ?_ _ | refine blk_drew ?_ | refine blk_alloc ?_ _)); exact BK348.out) hb); have n1_ := Aside0.mk (blk_below (g := gb371) (o := .cells #[.int .i64 t364, .int .i64 t365, .int .i64 t366, .int .i64 t367, .int .i64 t368] 42 (0, 0)) (by (with_reducible repeat (first | refine blk_drewN ?_ _ | refine blk_drew ?_ | refine blk_alloc ?_ _)); exact BK371.out) hb); have n2_ := Aside0.mk (blk_below (g := gb379) (o := .cells #[.int .i64 t372, .int .i64 t373, .int .i64 t374, .int .i64 t375, .int .i64 t376] 42 (0, 0)) (by (with_reducible repeat (first | refine blk_drewN ?_ _ | refine blk_drew ?_ | refine blk_alloc ?_ _)); exact BK379.out) hb); have n3_ := Aside0.mk (below_step (by repeat (first | (with_reducible first | exact HB.out | apply below_alloc | apply pw_below_drewN | apply below_drew1 | refine below_set ?_ GE348.out | refine below_set ?_ GE371.out | refine below_set ?_ GE379.out) | exact HB.out)) hb); clear BK348; clear BK371; clear BK379; clear HB; have BK348 := n0_; have BK371 := n1_; have BK379 := n2_; have HB := n3_; clear n0_ n1_ n2_ n3_; (try clear hb); have hcz75_0 : w74.cell? ⟨gb348, 0, none⟩ = some (.int .i64 a0_0) := (blk_cell BK348.out 0).trans rfl; have hcz75_1 : w74.cell? ⟨gb348, 1, none⟩ = some (.int .i64 a0_1) := (blk_cell BK348.out 1).trans rfl; have hcz75_2 : w74.cell? ⟨gb348, 2, none⟩ = some (.int .i64 a0_2) := (blk_cell BK348.out 2).trans rfl; have hcz75_3 : w74.cell? ⟨gb348, 3, none⟩ = some (.int .i64 a0_3) := (blk_cell BK348.out 3).trans rfl; have hcz75_4 : w74.cell? ⟨gb348, 4, none⟩ = some (.int .i64 a0_4) := (blk_cell BK348.out 4).trans rfl; have hfz75_0 := blk_frozen BK348.out 0; have hfz75_1 := blk_frozen BK348.out 1; have hfz75_2 := blk_frozen BK348.out 2; have hfz75_3 := blk_frozen BK348.out 3; have hfz75_4 := blk_frozen BK348.out 4) | ((with_reducible refine gate_callee (f := 33) rfl ?_); refine goesL_ (some 108) rfl rfl Tryd.func33 (by kernel_rfl) rfl #[.agg #[.int .i64 a0_0, .int .i64 a0_1, .int .i64 a0_2, .int .i64 a0_3, .int .i64 a0_4], .int .i64 a3] rfl (by (try simp only [List.map_toArray, List.map_cons, List.map_nil]); first | done | rfl | (simp only [List.length_drop, List.length_take]; rfl)) ?_; (with_reducible refine (epactref17_Day.calls k a0_0 a0_1 a0_2 a0_3 a0_4 a3 t386 t387 _ ?side776 A21.out).mono ?_); (case side776 => refine hG.below ?_; repeat (first | (with_reducible first | exact HB.out | apply below_alloc | apply pw_below_drewN | apply below_drew1 | refine below_set ?_ GE348.out | refine below_set ?_ GE371.out | refine below_set ?_ GE379.out) | exact HB.out)); rintro e w77 ⟨rfl, hb⟩; refine ⟨_, rfl, ?_⟩; have n0_ := Aside0.mk (blk_below (g := gb348) (o := .cells #[.int .i64 a0_0, .int .i64 a0_1, .int .i64 a0_2, .int .i64 a0_3, .int .i64 a0_4] 42 (0, 0)) (by (with_reducible repeat (first | refine blk_drewN ?_ _ | refine blk_drew ?_ | refine blk_alloc ?_ _)); exact BK348.out) hb); have n1_ := Aside0.mk (blk_below (g := gb371) (o := .cells #[.int .i64 t364, .int .i64 t365, .int .i64 t366, .int .i64 t367, .int .i64 t368] 42 (0, 0)) (by (with_reducible repeat (first | refine blk_drewN ?_ _ | refine blk_drew ?_ | refine blk_alloc ?_ _)); exact BK371.out) hb); have n2_ := Aside0.mk (blk_below (g := gb379) (o := .cells #[.int .i64 t372, .int .i64 t373, .int .i64 t374, .int .i64 t375, .int .i64 t376] 42 (0, 0)) (by (with_reducible repeat (first | refine blk_drewN ?_ _ | refine blk_drew ?_ | refine blk_alloc ?_ _)); exact BK379.out) hb); have n3_ := Aside0.mk (below_step (by repeat (first | (with_reducible first | exact HB.out | apply below_alloc | apply pw_below_drewN | apply below_drew1 | refine below_set ?_ GE348.out | refine below_set ?_ GE371.out | refine below_set ?_ GE379.out) | exact HB.out)) hb); clear BK348; clear BK371; clear BK379; clear HB; have BK348 := n0_; have BK371 := n1_; have BK379 := n2_; have HB := n3_; clear n0_ n1_ n2_ n3_; (try clear hb)))
                                  have n0_ := Aside0.mk (blk_drew BK348.out)
                                  have n1_ := Aside0.mk (blk_drew BK371.out)
                                  have n2_ := Aside0.mk (blk_drew BK379.out)
                                  have n3_ := Aside0.mk (below_drew1 HB.out)
                                  clear BK348
                                  clear BK371
                                  clear BK379
                                  clear HB
                                  have BK348 := n0_
                                  have BK371 := n1_
                                  have BK379 := n2_
                                  have HB := n3_
                                  clear n0_ n1_ n2_ n3_
                                  refine start_ (n := 79) (S := fun w' => w'.cell? ⟨gb348, 0, none⟩ = some (.int .i64 a0_0) ∧ w'.cell? ⟨gb348, 1, none⟩ = some (.int .i64 a0_1) ∧ w'.cell? ⟨gb348, 2, none⟩ = some (.int .i64 a0_2) ∧ w'.cell? ⟨gb348, 3, none⟩ = some (.int .i64 a0_3) ∧ w'.cell? ⟨gb348, 4, none⟩ = some (.int .i64 a0_4) ∧ w'.cell? ⟨gb371, 0, none⟩ = some (.int .i64 t364) ∧ w'.cell? ⟨gb371, 1, none⟩ = some (.int .i64 t365) ∧ w'.cell? ⟨gb371, 2, none⟩ = some (.int .i64 t366) ∧ w'.cell? ⟨gb371, 3, none⟩ = some (.int .i64 t367) ∧ w'.cell? ⟨gb371, 4, none⟩ = some (.int .i64 t368) ∧ w'.cell? ⟨gb379, 0, none⟩ = some (.int .i64 t372) ∧ w'.cell? ⟨gb379, 1, none⟩ = some (.int .i64 t373) ∧ w'.cell? ⟨gb379, 2, none⟩ = some (.int .i64 t374) ∧ w'.cell? ⟨gb379, 3, none⟩ = some (.int .i64 t375) ∧ w'.cell? ⟨gb379, 4, none⟩ = some (.int .i64 t376)) (ds := []) (bw 79 0) (by kernel_rfl) rfl rfl ⟨(blk_cell BK348.out 0).trans rfl, (blk_cell BK348.out 1).trans rfl, (blk_cell BK348.out 2).trans rfl, (blk_cell BK348.out 3).trans rfl, (blk_cell BK348.out 4).trans rfl, (blk_cell BK371.out 0).trans rfl, (blk_cell BK371.out 1).trans rfl, (blk_cell BK371.out 2).trans rfl, (blk_cell BK371.out 3).trans rfl, (blk_cell BK371.out 4).trans rfl, (blk_cell BK379.out 0).trans rfl, (blk_cell BK379.out 1).trans rfl, (blk_cell BK379.out 2).trans rfl, (blk_cell BK379.out 3).trans rfl, (blk_cell BK379.out 4).trans rfl⟩ (fun hHeld => ?_); refine with_tabW epactlaw17_RuleTells.tab16 epactlaw17_RuleTells.bits16 (fun HT_ HW_ => ?_)
                                  generalize w77.drew = w78 at BK348 BK371 BK379 HB hHeld ⊢
                                  refine pure_ (i := 0) (N := some 111) (v := ?_) (a' := ?_) (bw 79 1) rfl rfl (any_of HT_.out (by kernel_rfl)) (fun _ _ _ h => h) (Or.inl ⟨by rfl, ?_⟩) ?_ ?_
                                  rotate_left
                                  · intro w'
                                    go_simp
                                    with_reducible rfl
                                  rotate_left
                                  · simp only [Act.put, List.setIfInBounds_toArray, List.set_cons_zero, List.set_cons_succ, i64_w, i32_w]
                                    rfl
                                  refine pure_ (i := 1) (N := some 112) (v := ?_) (a' := ?_) (bw 79 3) rfl rfl (any_of HT_.out (by kernel_rfl)) (fun _ _ _ h => h) (Or.inl ⟨by rfl, ?_⟩) ?_ ?_
                                  rotate_left
                                  · intro w'
                                    go_simp
                                    with_reducible rfl
                                  rotate_left
                                  · simp only [Act.put, List.setIfInBounds_toArray, List.set_cons_zero, List.set_cons_succ, i64_w, i32_w]
                                    rfl
                                  refine take_ (i := 2) (N := some 113) (v := ?_) (a' := ?_) (bw 79 7) rfl rfl (take_ofW HT_.out HW_.out (by kernel_rfl)) (fun _ _ _ h => h) (Or.inl ⟨by rfl, ?_⟩) hHeld ?_ ?_
                                  rotate_left
                                  · rintro w' ⟨s0, s1, s2, s3, s4, s5, s6, s7, s8, s9, s10, s11, s12, s13, s14⟩
                                    go_simp
                                    with_reducible rfl
                                  rotate_left
                                  · simp only [Act.put, List.setIfInBounds_toArray, List.set_cons_zero, List.set_cons_succ, i64_w, i32_w]
                                    rfl
                                  refine take_ (i := 4) (N := some 115) (v := ?_) (a' := ?_) (bw 79 23) rfl rfl (take_ofW HT_.out HW_.out (by kernel_rfl)) (fun _ _ _ h => h) (Or.inl ⟨by rfl, ?_⟩) hHeld ?_ ?_
                                  rotate_left
                                  · rintro w' ⟨s0, s1, s2, s3, s4, s5, s6, s7, s8, s9, s10, s11, s12, s13, s14⟩
                                    go_simp
                                    with_reducible rfl
                                  rotate_left
                                  · simp only [Act.put, List.setIfInBounds_toArray, List.set_cons_zero, List.set_cons_succ, i64_w, i32_w]
                                    rfl
                                  refine one_ (i := 3) (N := some 114) (bw 79 31) rfl rfl (one_of HT_.out (by kernel_rfl)) (by decide) (fun K hK => ?_)
                                  refine goes_ Tryd.func34 (by kernel_rfl) rfl #[.agg #[.int .i64 a0_0, .int .i64 a0_1, .int .i64 a0_2, .int .i64 a0_3, .int .i64 a0_4]] (by rfl) rfl rfl (by (try simp only [List.map_toArray, List.map_cons, List.map_nil]); first | done | rfl | (simp only [List.length_drop, List.length_take]; rfl)) ?_
                                  with_reducible refine (rule_Right.calls a0_0 a0_1 a0_2 a0_3 a0_4 t388 _ ?side779 A23.out).mono ?_
                                  (case side779 => refine hG.below ?_; repeat (first | (with_reducible first | exact HB.out | apply below_alloc | apply pw_below_drewN | apply below_drew1 | refine below_set ?_ GE348.out | refine below_set ?_ GE371.out | refine below_set ?_ GE379.out) | exact HB.out))
                                  rintro e w80 ⟨rfl, hb⟩
                                  refine ⟨_, rfl, ?_⟩
                                  have n0_ := Aside0.mk (blk_below (g := gb348) (o := .cells #[.int .i64 a0_0, .int .i64 a0_1, .int .i64 a0_2, .int .i64 a0_3, .int .i64 a0_4] 42 (0, 0)) (by (with_reducible repeat (first | refine blk_drewN ?_ _ | refine blk_drew ?_ | refine blk_alloc ?_ _)); exact BK348.out) hb)
                                  have n1_ := Aside0.mk (blk_below (g := gb371) (o := .cells #[.int .i64 t364, .int .i64 t365, .int .i64 t366, .int .i64 t367, .int .i64 t368] 42 (0, 0)) (by (with_reducible repeat (first | refine blk_drewN ?_ _ | refine blk_drew ?_ | refine blk_alloc ?_ _)); exact BK371.out) hb)
                                  have n2_ := Aside0.mk (blk_below (g := gb379) (o := .cells #[.int .i64 t372, .int .i64 t373, .int .i64 t374, .int .i64 t375, .int .i64 t376] 42 (0, 0)) (by (with_reducible repeat (first | refine blk_drewN ?_ _ | refine blk_drew ?_ | refine blk_alloc ?_ _)); exact BK379.out) hb)
                                  have n3_ := Aside0.mk (below_step (by repeat (first | (with_reducible first | exact HB.out | apply below_alloc | apply pw_below_drewN | apply below_drew1 | refine below_set ?_ GE348.out | refine below_set ?_ GE371.out | refine below_set ?_ GE379.out) | exact HB.out)) hb)
                                  clear BK348
                                  clear BK371
                                  clear BK379
                                  clear HB
                                  have BK348 := n0_
                                  have BK371 := n1_
                                  have BK379 := n2_
                                  have HB := n3_
                                  clear n0_ n1_ n2_ n3_
                                  (try clear hb)
                                  (try clear hb2)
                                  (try clear hk)
                                  (try clear hi)
                                  refine hK.out _ _ ⟨(blk_cell BK348.out 0).trans rfl, (blk_cell BK348.out 1).trans rfl, (blk_cell BK348.out 2).trans rfl, (blk_cell BK348.out 3).trans rfl, (blk_cell BK348.out 4).trans rfl, (blk_cell BK371.out 0).trans rfl, (blk_cell BK371.out 1).trans rfl, (blk_cell BK371.out 2).trans rfl, (blk_cell BK371.out 3).trans rfl, (blk_cell BK371.out 4).trans rfl, (blk_cell BK379.out 0).trans rfl, (blk_cell BK379.out 1).trans rfl, (blk_cell BK379.out 2).trans rfl, (blk_cell BK379.out 3).trans rfl, (blk_cell BK379.out 4).trans rfl⟩ (fun hHeld => ?_)
                                  clear hK K
                                  refine norm_ (a' := ?_) ?_ ?_
                                  rotate_left
                                  · show Act.put _ (some 114) _ = _
                                    simp only [Act.put, List.setIfInBounds_toArray, List.set_cons_zero, List.set_cons_succ, i64_w, i32_w]
                                    rfl
                                  refine one_ (i := 5) (N := some 116) (bw 79 63) rfl rfl (one_of HT_.out (by kernel_rfl)) (by decide) (fun K hK => ?_)
                                  refine goes_ Tryd.func35 (by kernel_rfl) rfl #[.agg #[.int .i64 a0_0, .int .i64 a0_1, .int .i64 a0_2, .int .i64 a0_3, .int .i64 a0_4]] (by rfl) rfl rfl (by (try simp only [List.map_toArray, List.map_cons, List.map_nil]); first | done | rfl | (simp only [List.length_drop, List.length_take]; rfl)) ?_
                                  with_reducible refine (epactref17_Right.calls k a0_0 a0_1 a0_2 a0_3 a0_4 t389 _ ?side781 A24.out).mono ?_
                                  (case side781 => refine hG.below ?_; repeat (first | (with_reducible first | exact HB.out | apply below_alloc | apply pw_below_drewN | apply below_drew1 | refine below_set ?_ GE348.out | refine below_set ?_ GE371.out | refine below_set ?_ GE379.out) | exact HB.out))
                                  rintro e w82 ⟨rfl, hb⟩
                                  refine ⟨_, rfl, ?_⟩
                                  have n0_ := Aside0.mk (blk_below (g := gb348) (o := .cells #[.int .i64 a0_0, .int .i64 a0_1, .int .i64 a0_2, .int .i64 a0_3, .int .i64 a0_4] 42 (0, 0)) (by (with_reducible repeat (first | refine blk_drewN ?_ _ | refine blk_drew ?_ | refine blk_alloc ?_ _)); exact BK348.out) hb)
                                  have n1_ := Aside0.mk (blk_below (g := gb371) (o := .cells #[.int .i64 t364, .int .i64 t365, .int .i64 t366, .int .i64 t367, .int .i64 t368] 42 (0, 0)) (by (with_reducible repeat (first | refine blk_drewN ?_ _ | refine blk_drew ?_ | refine blk_alloc ?_ _)); exact BK371.out) hb)
                                  have n2_ := Aside0.mk (blk_below (g := gb379) (o := .cells #[.int .i64 t372, .int .i64 t373, .int .i64 t374, .int .i64 t375, .int .i64 t376] 42 (0, 0)) (by (with_reducible repeat (first | refine blk_drewN ?_ _ | refine blk_drew ?_ | refine blk_alloc ?_ _)); exact BK379.out) hb)
                                  have n3_ := Aside0.mk (below_step (by repeat (first | (with_reducible first | exact HB.out | apply below_alloc | apply pw_below_drewN | apply below_drew1 | refine below_set ?_ GE348.out | refine below_set ?_ GE371.out | refine below_set ?_ GE379.out) | exact HB.out)) hb)
                                  clear BK348
                                  clear BK371
                                  clear BK379
                                  clear HB
                                  have BK348 := n0_
                                  have BK371 := n1_
                                  have BK379 := n2_
                                  have HB := n3_
                                  clear n0_ n1_ n2_ n3_
                                  (try clear hb)
                                  (try clear hb2)
                                  (try clear hk)
                                  (try clear hi)
                                  refine hK.out _ _ ⟨(blk_cell BK348.out 0).trans rfl, (blk_cell BK348.out 1).trans rfl, (blk_cell BK348.out 2).trans rfl, (blk_cell BK348.out 3).trans rfl, (blk_cell BK348.out 4).trans rfl, (blk_cell BK371.out 0).trans rfl, (blk_cell BK371.out 1).trans rfl, (blk_cell BK371.out 2).trans rfl, (blk_cell BK371.out 3).trans rfl, (blk_cell BK371.out 4).trans rfl, (blk_cell BK379.out 0).trans rfl, (blk_cell BK379.out 1).trans rfl, (blk_cell BK379.out 2).trans rfl, (blk_cell BK379.out 3).trans rfl, (blk_cell BK379.out 4).trans rfl⟩ (fun hHeld => ?_)
                                  clear hK K
                                  refine norm_ (a' := ?_) ?_ ?_
                                  rotate_left
                                  · show Act.put _ (some 116) _ = _
                                    simp only [Act.put, List.setIfInBounds_toArray, List.set_cons_zero, List.set_cons_succ, i64_w, i32_w]
                                    rfl
                                  refine pure_ (i := 6) (N := some 117) (v := ?_) (a' := ?_) (bw 79 127) rfl rfl (any_of HT_.out (by kernel_rfl)) (fun _ _ _ h => h) (Or.inl ⟨by rfl, ?_⟩) ?_ ?_
                                  rotate_left
                                  · intro w'
                                    go_simp
                                    with_reducible rfl
                                  rotate_left
                                  · simp only [Act.put, List.setIfInBounds_toArray, List.set_cons_zero, List.set_cons_succ, i64_w, i32_w]
                                    rfl
                                  refine pure_ (i := 7) (N := some 118) (v := ?_) (a' := ?_) (bw 79 255) rfl rfl (any_of HT_.out (by kernel_rfl)) (fun _ _ _ h => h) (Or.inl ⟨by rfl, ?_⟩) ?_ ?_
                                  rotate_left
                                  · intro w'
                                    go_simp
                                    with_reducible rfl
                                  rotate_left
                                  · simp only [Act.put, List.setIfInBounds_toArray, List.set_cons_zero, List.set_cons_succ, i64_w, i32_w]
                                    rfl
                                  refine pure_ (i := 8) (N := some 119) (v := ?_) (a' := ?_) (bw 79 511) rfl rfl (any_of HT_.out (by kernel_rfl)) (fun _ _ _ h => h) (Or.inl ⟨by rfl, ?_⟩) ?_ ?_
                                  rotate_left
                                  · intro w'
                                    go_simp
                                    with_reducible rfl
                                  rotate_left
                                  · simp only [Act.put, List.setIfInBounds_toArray, List.set_cons_zero, List.set_cons_succ, i64_w, i32_w]
                                    rfl
                                  refine pure_ (i := 9) (N := some 120) (v := ?_) (a' := ?_) (bw 79 1023) rfl rfl (any_of HT_.out (by kernel_rfl)) (fun _ _ _ h => h) (Or.inl ⟨by rfl, ?_⟩) ?_ ?_
                                  rotate_left
                                  · intro w'
                                    go_simp
                                    with_reducible rfl
                                  rotate_left
                                  · simp only [Act.put, List.setIfInBounds_toArray, List.set_cons_zero, List.set_cons_succ, i64_w, i32_w]
                                    rfl
                                  refine pure_ (i := 10) (N := some 121) (v := ?_) (a' := ?_) (bw 79 2047) rfl rfl (any_of HT_.out (by kernel_rfl)) (fun _ _ _ h => h) (Or.inl ⟨by rfl, ?_⟩) ?_ ?_
                                  rotate_left
                                  · intro w'
                                    go_simp
                                    with_reducible rfl
                                  rotate_left
                                  · simp only [Act.put, List.setIfInBounds_toArray, List.set_cons_zero, List.set_cons_succ, i64_w, i32_w]
                                    rfl
                                  refine pure_ (i := 11) (N := some 122) (v := ?_) (a' := ?_) (bw 79 4095) rfl rfl (any_of HT_.out (by kernel_rfl)) (fun _ _ _ h => h) (Or.inl ⟨by rfl, ?_⟩) ?_ ?_
                                  rotate_left
                                  · intro w'
                                    go_simp
                                    with_reducible rfl
                                  rotate_left
                                  · simp only [Act.put, List.setIfInBounds_toArray, List.set_cons_zero, List.set_cons_succ, i64_w, i32_w]
                                    rfl
                                  refine pure_ (i := 12) (N := some 123) (v := ?_) (a' := ?_) (bw 79 8191) rfl rfl (any_of HT_.out (by kernel_rfl)) (fun _ _ _ h => h) (Or.inl ⟨by rfl, ?_⟩) ?_ ?_
                                  rotate_left
                                  · intro w'
                                    go_simp
                                    with_reducible rfl
                                  rotate_left
                                  · simp only [Act.put, List.setIfInBounds_toArray, List.set_cons_zero, List.set_cons_succ, i64_w, i32_w]
                                    rfl
                                  refine pure_ (i := 13) (N := some 124) (v := ?_) (a' := ?_) (bw 79 16383) rfl rfl (any_of HT_.out (by kernel_rfl)) (fun _ _ _ h => h) (Or.inl ⟨by rfl, ?_⟩) ?_ ?_
                                  rotate_left
                                  · intro w'
                                    go_simp
                                    with_reducible rfl
                                  rotate_left
                                  · simp only [Act.put, List.setIfInBounds_toArray, List.set_cons_zero, List.set_cons_succ, i64_w, i32_w]
                                    rfl
                                  refine pure_ (i := 14) (N := some 125) (v := ?_) (a' := ?_) (bw 79 32767) rfl rfl (any_of HT_.out (by kernel_rfl)) (fun _ _ _ h => h) (Or.inl ⟨by rfl, ?_⟩) ?_ ?_
                                  rotate_left
                                  · intro w'
                                    go_simp
                                    with_reducible rfl
                                  rotate_left
                                  · simp only [Act.put, List.setIfInBounds_toArray, List.set_cons_zero, List.set_cons_succ, i64_w, i32_w]
                                    rfl
                                  refine pure_ (i := 15) (N := some 126) (v := ?_) (a' := ?_) (bw 79 65535) rfl rfl (any_of HT_.out (by kernel_rfl)) (fun _ _ _ h => h) (Or.inl ⟨by rfl, ?_⟩) ?_ ?_
                                  rotate_left
                                  · intro w'
                                    go_simp
                                    with_reducible rfl
                                  rotate_left
                                  · simp only [Act.put, List.setIfInBounds_toArray, List.set_cons_zero, List.set_cons_succ, i64_w, i32_w]
                                    rfl
                                  refine pure_ (i := 16) (N := some 127) (v := ?_) (a' := ?_) (bw 79 131071) rfl rfl (any_of HT_.out (by kernel_rfl)) (fun _ _ _ h => h) (Or.inl ⟨by rfl, ?_⟩) ?_ ?_
                                  rotate_left
                                  · intro w'
                                    go_simp
                                    with_reducible rfl
                                  rotate_left
                                  · simp only [Act.put, List.setIfInBounds_toArray, List.set_cons_zero, List.set_cons_succ, i64_w, i32_w]
                                    rfl
                                  refine pure_ (i := 17) (N := some 128) (v := ?_) (a' := ?_) (bw 79 262143) rfl rfl (any_of HT_.out (by kernel_rfl)) (fun _ _ _ h => h) (Or.inl ⟨by rfl, ?_⟩) ?_ ?_
                                  rotate_left
                                  · intro w'
                                    go_simp
                                    with_reducible rfl
                                  rotate_left
                                  · simp only [Act.put, List.setIfInBounds_toArray, List.set_cons_zero, List.set_cons_succ, i64_w, i32_w]
                                    rfl
                                  refine pure_ (i := 18) (N := some 129) (v := ?_) (a' := ?_) (bw 79 524287) rfl rfl (any_of HT_.out (by kernel_rfl)) (fun _ _ _ h => h) (Or.inl ⟨by rfl, ?_⟩) ?_ ?_
                                  rotate_left
                                  · intro w'
                                    go_simp
                                    with_reducible rfl
                                  rotate_left
                                  · simp only [Act.put, List.setIfInBounds_toArray, List.set_cons_zero, List.set_cons_succ, i64_w, i32_w]
                                    rfl
                                  refine pure_ (i := 19) (N := some 130) (v := ?_) (a' := ?_) (bw 79 1048575) rfl rfl (any_of HT_.out (by kernel_rfl)) (fun _ _ _ h => h) (Or.inl ⟨by rfl, ?_⟩) ?_ ?_
                                  rotate_left
                                  · intro w'
                                    go_simp
                                    with_reducible rfl
                                  rotate_left
                                  · simp only [Act.put, List.setIfInBounds_toArray, List.set_cons_zero, List.set_cons_succ, i64_w, i32_w]
                                    rfl
                                  refine pure_ (i := 20) (N := some 131) (v := ?_) (a' := ?_) (bw 79 2097151) rfl rfl (any_of HT_.out (by kernel_rfl)) (fun _ _ _ h => h) (Or.inl ⟨by rfl, ?_⟩) ?_ ?_
                                  rotate_left
                                  · intro w'
                                    go_simp
                                    with_reducible rfl
                                  rotate_left
                                  · simp only [Act.put, List.setIfInBounds_toArray, List.set_cons_zero, List.set_cons_succ, i64_w, i32_w]
                                    rfl
                                  refine pure_ (i := 21) (N := some 132) (v := ?_) (a' := ?_) (bw 79 4194303) rfl rfl (any_of HT_.out (by kernel_rfl)) (fun _ _ _ h => h) (Or.inl ⟨by rfl, ?_⟩) ?_ ?_
                                  rotate_left
                                  · intro w'
                                    go_simp
                                    with_reducible rfl
                                  rotate_left
                                  · simp only [Act.put, List.setIfInBounds_toArray, List.set_cons_zero, List.set_cons_succ, i64_w, i32_w]
                                    rfl
                                  refine pure_ (i := 22) (N := some 133) (v := ?_) (a' := ?_) (bw 79 8388607) rfl rfl (any_of HT_.out (by kernel_rfl)) (fun _ _ _ h => h) (Or.inl ⟨by rfl, ?_⟩) ?_ ?_
                                  rotate_left
                                  · intro w'
                                    go_simp
                                    with_reducible rfl
                                  rotate_left
                                  · simp only [Act.put, List.setIfInBounds_toArray, List.set_cons_zero, List.set_cons_succ, i64_w, i32_w]
                                    rfl
                                  refine pure_ (i := 23) (N := some 134) (v := ?_) (a' := ?_) (bw 79 16777215) rfl rfl (any_of HT_.out (by kernel_rfl)) (fun _ _ _ h => h) (Or.inl ⟨by rfl, ?_⟩) ?_ ?_
                                  rotate_left
                                  · intro w'
                                    go_simp
                                    with_reducible rfl
                                  rotate_left
                                  · simp only [Act.put, List.setIfInBounds_toArray, List.set_cons_zero, List.set_cons_succ, i64_w, i32_w]
                                    rfl
                                  refine pure_ (i := 24) (N := some 135) (v := ?_) (a' := ?_) (bw 79 33554431) rfl rfl (any_of HT_.out (by kernel_rfl)) (fun _ _ _ h => h) (Or.inl ⟨by rfl, ?_⟩) ?_ ?_
                                  rotate_left
                                  · intro w'
                                    go_simp
                                    with_reducible rfl
                                  rotate_left
                                  · simp only [Act.put, List.setIfInBounds_toArray, List.set_cons_zero, List.set_cons_succ, i64_w, i32_w]
                                    rfl
                                  refine pure_ (i := 25) (N := some 136) (v := ?_) (a' := ?_) (bw 79 67108863) rfl rfl (any_of HT_.out (by kernel_rfl)) (fun _ _ _ h => h) (Or.inl ⟨by rfl, ?_⟩) ?_ ?_
                                  rotate_left
                                  · intro w'
                                    go_simp
                                    with_reducible rfl
                                  rotate_left
                                  · simp only [Act.put, List.setIfInBounds_toArray, List.set_cons_zero, List.set_cons_succ, i64_w, i32_w]
                                    rfl
                                  refine pure_ (i := 26) (N := some 137) (v := ?_) (a' := ?_) (bw 79 134217727) rfl rfl (any_of HT_.out (by kernel_rfl)) (fun _ _ _ h => h) (Or.inl ⟨by rfl, ?_⟩) ?_ ?_
                                  rotate_left
                                  · intro w'
                                    go_simp
                                    with_reducible rfl
                                  rotate_left
                                  · simp only [Act.put, List.setIfInBounds_toArray, List.set_cons_zero, List.set_cons_succ, i64_w, i32_w]
                                    rfl
                                  refine pure_ (i := 27) (N := some 138) (v := ?_) (a' := ?_) (bw 79 268435455) rfl rfl (any_of HT_.out (by kernel_rfl)) (fun _ _ _ h => h) (Or.inl ⟨by rfl, ?_⟩) ?_ ?_
                                  rotate_left
                                  · intro w'
                                    go_simp
                                    with_reducible rfl
                                  rotate_left
                                  · simp only [Act.put, List.setIfInBounds_toArray, List.set_cons_zero, List.set_cons_succ, i64_w, i32_w]
                                    rfl
                                  refine pure_ (i := 28) (N := some 139) (v := ?_) (a' := ?_) (bw 79 536870911) rfl rfl (any_of HT_.out (by kernel_rfl)) (fun _ _ _ h => h) (Or.inl ⟨by rfl, ?_⟩) ?_ ?_
                                  rotate_left
                                  · intro w'
                                    go_simp
                                    with_reducible rfl
                                  rotate_left
                                  · simp only [Act.put, List.setIfInBounds_toArray, List.set_cons_zero, List.set_cons_succ, i64_w, i32_w]
                                    rfl
                                  refine pure_ (i := 29) (N := some 140) (v := ?_) (a' := ?_) (bw 79 1073741823) rfl rfl (any_of HT_.out (by kernel_rfl)) (fun _ _ _ h => h) (Or.inl ⟨by rfl, ?_⟩) ?_ ?_
                                  rotate_left
                                  · intro w'
                                    go_simp
                                    with_reducible rfl
                                  rotate_left
                                  · simp only [Act.put, List.setIfInBounds_toArray, List.set_cons_zero, List.set_cons_succ, i64_w, i32_w]
                                    rfl
                                  refine pure_ (i := 30) (N := some 141) (v := ?_) (a' := ?_) (bw 79 2147483647) rfl rfl (any_of HT_.out (by kernel_rfl)) (fun _ _ _ h => h) (Or.inl ⟨by rfl, ?_⟩) ?_ ?_
                                  rotate_left
                                  · intro w'
                                    go_simp
                                    with_reducible rfl
                                  rotate_left
                                  · simp only [Act.put, List.setIfInBounds_toArray, List.set_cons_zero, List.set_cons_succ, i64_w, i32_w]
                                    rfl
                                  refine pure_ (i := 31) (N := some 142) (v := ?_) (a' := ?_) (bw 79 4294967295) rfl rfl (any_of HT_.out (by kernel_rfl)) (fun _ _ _ h => h) (Or.inl ⟨by rfl, ?_⟩) ?_ ?_
                                  rotate_left
                                  · intro w'
                                    go_simp
                                    with_reducible rfl
                                  rotate_left
                                  · simp only [Act.put, List.setIfInBounds_toArray, List.set_cons_zero, List.set_cons_succ, i64_w, i32_w]
                                    rfl
                                  refine pure_ (i := 32) (N := some 143) (v := ?_) (a' := ?_) (bw 79 8589934591) rfl rfl (any_of HT_.out (by kernel_rfl)) (fun _ _ _ h => h) (Or.inl ⟨by rfl, ?_⟩) ?_ ?_
                                  rotate_left
                                  · intro w'
                                    go_simp
                                    with_reducible rfl
                                  rotate_left
                                  · simp only [Act.put, List.setIfInBounds_toArray, List.set_cons_zero, List.set_cons_succ, i64_w, i32_w]
                                    rfl
                                  refine pure_ (i := 33) (N := some 144) (v := ?_) (a' := ?_) (bw 79 17179869183) rfl rfl (any_of HT_.out (by kernel_rfl)) (fun _ _ _ h => h) (Or.inl ⟨by rfl, ?_⟩) ?_ ?_
                                  rotate_left
                                  · intro w'
                                    go_simp
                                    with_reducible rfl
                                  rotate_left
                                  · simp only [Act.put, List.setIfInBounds_toArray, List.set_cons_zero, List.set_cons_succ, i64_w, i32_w]
                                    rfl
                                  refine pure_ (i := 34) (N := some 145) (v := ?_) (a' := ?_) (bw 79 34359738367) rfl rfl (any_of HT_.out (by kernel_rfl)) (fun _ _ _ h => h) (Or.inl ⟨by rfl, ?_⟩) ?_ ?_
                                  rotate_left
                                  · intro w'
                                    go_simp
                                    with_reducible rfl
                                  rotate_left
                                  · simp only [Act.put, List.setIfInBounds_toArray, List.set_cons_zero, List.set_cons_succ, i64_w, i32_w]
                                    rfl
                                  refine pure_ (i := 35) (N := some 146) (v := ?_) (a' := ?_) (bw 79 68719476735) rfl rfl (any_of HT_.out (by kernel_rfl)) (fun _ _ _ h => h) (Or.inl ⟨by rfl, ?_⟩) ?_ ?_
                                  rotate_left
                                  · intro w'
                                    go_simp
                                    with_reducible rfl
                                  rotate_left
                                  · simp only [Act.put, List.setIfInBounds_toArray, List.set_cons_zero, List.set_cons_succ, i64_w, i32_w]
                                    rfl
                                  refine pure_ (i := 36) (N := some 147) (v := ?_) (a' := ?_) (bw 79 137438953471) rfl rfl (any_of HT_.out (by kernel_rfl)) (fun _ _ _ h => h) (Or.inl ⟨by rfl, ?_⟩) ?_ ?_
                                  rotate_left
                                  · intro w'
                                    go_simp
                                    with_reducible rfl
                                  rotate_left
                                  · simp only [Act.put, List.setIfInBounds_toArray, List.set_cons_zero, List.set_cons_succ, i64_w, i32_w]
                                    rfl
                                  refine pure_ (i := 37) (N := some 148) (v := ?_) (a' := ?_) (bw 79 274877906943) rfl rfl (any_of HT_.out (by kernel_rfl)) (fun _ _ _ h => h) (Or.inl ⟨by rfl, ?_⟩) ?_ ?_
                                  rotate_left
                                  · intro w'
                                    go_simp
                                    with_reducible rfl
                                  rotate_left
                                  · simp only [Act.put, List.setIfInBounds_toArray, List.set_cons_zero, List.set_cons_succ, i64_w, i32_w]
                                    rfl
                                  refine pure_ (i := 38) (N := some 149) (v := ?_) (a' := ?_) (bw 79 549755813887) rfl rfl (any_of HT_.out (by kernel_rfl)) (fun _ _ _ h => h) (Or.inl ⟨by rfl, ?_⟩) ?_ ?_
                                  rotate_left
                                  · intro w'
                                    go_simp
                                    with_reducible rfl
                                  rotate_left
                                  · simp only [Act.put, List.setIfInBounds_toArray, List.set_cons_zero, List.set_cons_succ, i64_w, i32_w]
                                    rfl
                                  refine pure_ (i := 39) (N := some 150) (v := ?_) (a' := ?_) (bw 79 1099511627775) rfl rfl (any_of HT_.out (by kernel_rfl)) (fun _ _ _ h => h) (Or.inl ⟨by rfl, ?_⟩) ?_ ?_
                                  rotate_left
                                  · intro w'
                                    go_simp
                                    with_reducible rfl
                                  rotate_left
                                  · simp only [Act.put, List.setIfInBounds_toArray, List.set_cons_zero, List.set_cons_succ, i64_w, i32_w]
                                    rfl
                                  refine pure_ (i := 40) (N := some 151) (v := ?_) (a' := ?_) (bw 79 2199023255551) rfl rfl (any_of HT_.out (by kernel_rfl)) (fun _ _ _ h => h) (Or.inl ⟨by rfl, ?_⟩) ?_ ?_
                                  rotate_left
                                  · intro w'
                                    go_simp
                                    with_reducible rfl
                                  rotate_left
                                  · simp only [Act.put, List.setIfInBounds_toArray, List.set_cons_zero, List.set_cons_succ, i64_w, i32_w]
                                    rfl
                                  refine pure_ (i := 41) (N := some 152) (v := ?_) (a' := ?_) (bw 79 4398046511103) rfl rfl (any_of HT_.out (by kernel_rfl)) (fun _ _ _ h => h) (Or.inl ⟨by rfl, ?_⟩) ?_ ?_
                                  rotate_left
                                  · intro w'
                                    go_simp
                                    with_reducible rfl
                                  rotate_left
                                  · simp only [Act.put, List.setIfInBounds_toArray, List.set_cons_zero, List.set_cons_succ, i64_w, i32_w]
                                    rfl
                                  refine pure_ (i := 42) (N := some 153) (v := ?_) (a' := ?_) (bw 79 8796093022207) rfl rfl (any_of HT_.out (by kernel_rfl)) (fun _ _ _ h => h) (Or.inl ⟨by rfl, ?_⟩) ?_ ?_
                                  rotate_left
                                  · intro w'
                                    go_simp
                                    with_reducible rfl
                                  rotate_left
                                  · simp only [Act.put, List.setIfInBounds_toArray, List.set_cons_zero, List.set_cons_succ, i64_w, i32_w]
                                    rfl
                                  refine pure_ (i := 43) (N := some 154) (v := ?_) (a' := ?_) (bw 79 17592186044415) rfl rfl (any_of HT_.out (by kernel_rfl)) (fun _ _ _ h => h) (Or.inl ⟨by rfl, ?_⟩) ?_ ?_
                                  rotate_left
                                  · intro w'
                                    go_simp
                                    with_reducible rfl
                                  rotate_left
                                  · simp only [Act.put, List.setIfInBounds_toArray, List.set_cons_zero, List.set_cons_succ, i64_w, i32_w]
                                    rfl
                                  refine take_ (i := 44) (N := some 155) (v := ?_) (a' := ?_) (bw 79 35184372088831) rfl rfl (take_ofW HT_.out HW_.out (by kernel_rfl)) (fun _ _ _ h => h) (Or.inl ⟨by rfl, ?_⟩) hHeld ?_ ?_
                                  rotate_left
                                  · rintro w' ⟨s0, s1, s2, s3, s4, s5, s6, s7, s8, s9, s10, s11, s12, s13, s14⟩
                                    go_simp
                                    with_reducible rfl
                                  rotate_left
                                  · simp only [Act.put, List.setIfInBounds_toArray, List.set_cons_zero, List.set_cons_succ, i64_w, i32_w]
                                    rfl
                                  refine take_ (i := 45) (N := some 156) (v := ?_) (a' := ?_) (bw 79 70368744177663) rfl rfl (take_ofW HT_.out HW_.out (by kernel_rfl)) (fun _ _ _ h => h) (Or.inl ⟨by rfl, ?_⟩) hHeld ?_ ?_
                                  rotate_left
                                  · rintro w' ⟨s0, s1, s2, s3, s4, s5, s6, s7, s8, s9, s10, s11, s12, s13, s14⟩
                                    go_simp
                                    with_reducible rfl
                                  rotate_left
                                  · simp only [Act.put, List.setIfInBounds_toArray, List.set_cons_zero, List.set_cons_succ, i64_w, i32_w]
                                    rfl
                                  refine pure_ (i := 46) (N := some 157) (v := ?_) (a' := ?_) (bw 79 140737488355327) rfl rfl (any_of HT_.out (by kernel_rfl)) (fun _ _ _ h => h) (Or.inl ⟨by rfl, ?_⟩) ?_ ?_
                                  rotate_left
                                  · intro w'
                                    go_simp
                                    with_reducible rfl
                                  rotate_left
                                  · simp only [Act.put, List.setIfInBounds_toArray, List.set_cons_zero, List.set_cons_succ, i64_w, i32_w]
                                    rfl
                                  refine pure_ (i := 47) (N := some 158) (v := ?_) (a' := ?_) (bw 79 281474976710655) rfl rfl (any_of HT_.out (by kernel_rfl)) (fun _ _ _ h => h) (Or.inl ⟨by rfl, ?_⟩) ?_ ?_
                                  rotate_left
                                  · intro w'
                                    go_simp
                                    with_reducible rfl
                                  rotate_left
                                  · simp only [Act.put, List.setIfInBounds_toArray, List.set_cons_zero, List.set_cons_succ, i64_w, i32_w]
                                    rfl
                                  refine pure_ (i := 48) (N := some 159) (v := ?_) (a' := ?_) (bw 79 562949953421311) rfl rfl (any_of HT_.out (by kernel_rfl)) (fun _ _ _ h => h) (Or.inl ⟨by rfl, ?_⟩) ?_ ?_
                                  rotate_left
                                  · intro w'
                                    go_simp
                                    with_reducible rfl
                                  rotate_left
                                  · simp only [Act.put, List.setIfInBounds_toArray, List.set_cons_zero, List.set_cons_succ, i64_w, i32_w]
                                    rfl
                                  refine pure_ (i := 49) (N := some 160) (v := ?_) (a' := ?_) (bw 79 1125899906842623) rfl rfl (any_of HT_.out (by kernel_rfl)) (fun _ _ _ h => h) (Or.inl ⟨by rfl, ?_⟩) ?_ ?_
                                  rotate_left
                                  · intro w'
                                    go_simp
                                    with_reducible rfl
                                  rotate_left
                                  · simp only [Act.put, List.setIfInBounds_toArray, List.set_cons_zero, List.set_cons_succ, i64_w, i32_w]
                                    rfl
                                  refine pure_ (i := 50) (N := some 161) (v := ?_) (a' := ?_) (bw 79 2251799813685247) rfl rfl (any_of HT_.out (by kernel_rfl)) (fun _ _ _ h => h) (Or.inl ⟨by rfl, ?_⟩) ?_ ?_
                                  rotate_left
                                  · intro w'
                                    go_simp
                                    with_reducible rfl
                                  rotate_left
                                  · simp only [Act.put, List.setIfInBounds_toArray, List.set_cons_zero, List.set_cons_succ, i64_w, i32_w]
                                    rfl
                                  refine pure_ (i := 51) (N := some 162) (v := ?_) (a' := ?_) (bw 79 4503599627370495) rfl rfl (any_of HT_.out (by kernel_rfl)) (fun _ _ _ h => h) (Or.inl ⟨by rfl, ?_⟩) ?_ ?_
                                  rotate_left
                                  · intro w'
                                    go_simp
                                    with_reducible rfl
                                  rotate_left
                                  · simp only [Act.put, List.setIfInBounds_toArray, List.set_cons_zero, List.set_cons_succ, i64_w, i32_w]
                                    rfl
                                  refine pure_ (i := 52) (N := some 163) (v := ?_) (a' := ?_) (bw 79 9007199254740991) rfl rfl (any_of HT_.out (by kernel_rfl)) (fun _ _ _ h => h) (Or.inl ⟨by rfl, ?_⟩) ?_ ?_
                                  rotate_left
                                  · intro w'
                                    go_simp
                                    with_reducible rfl
                                  rotate_left
                                  · simp only [Act.put, List.setIfInBounds_toArray, List.set_cons_zero, List.set_cons_succ, i64_w, i32_w]
                                    rfl
                                  refine pure_ (i := 53) (N := some 164) (v := ?_) (a' := ?_) (bw 79 18014398509481983) rfl rfl (any_of HT_.out (by kernel_rfl)) (fun _ _ _ h => h) (Or.inl ⟨by rfl, ?_⟩) ?_ ?_
                                  rotate_left
                                  · intro w'
                                    go_simp
                                    with_reducible rfl
                                  rotate_left
                                  · simp only [Act.put, List.setIfInBounds_toArray, List.set_cons_zero, List.set_cons_succ, i64_w, i32_w]
                                    rfl
                                  refine pure_ (i := 54) (N := some 165) (v := ?_) (a' := ?_) (bw 79 36028797018963967) rfl rfl (any_of HT_.out (by kernel_rfl)) (fun _ _ _ h => h) (Or.inl ⟨by rfl, ?_⟩) ?_ ?_
                                  rotate_left
                                  · intro w'
                                    go_simp
                                    with_reducible rfl
                                  rotate_left
                                  · simp only [Act.put, List.setIfInBounds_toArray, List.set_cons_zero, List.set_cons_succ, i64_w, i32_w]
                                    rfl
                                  refine pure_ (i := 55) (N := some 166) (v := ?_) (a' := ?_) (bw 79 72057594037927935) rfl rfl (any_of HT_.out (by kernel_rfl)) (fun _ _ _ h => h) (Or.inl ⟨by rfl, ?_⟩) ?_ ?_
                                  rotate_left
                                  · intro w'
                                    go_simp
                                    with_reducible rfl
                                  rotate_left
                                  · simp only [Act.put, List.setIfInBounds_toArray, List.set_cons_zero, List.set_cons_succ, i64_w, i32_w]
                                    rfl
                                  refine pure_ (i := 56) (N := some 167) (v := ?_) (a' := ?_) (bw 79 144115188075855871) rfl rfl (any_of HT_.out (by kernel_rfl)) (fun _ _ _ h => h) (Or.inl ⟨by rfl, ?_⟩) ?_ ?_
                                  rotate_left
                                  · intro w'
                                    go_simp
                                    with_reducible rfl
                                  rotate_left
                                  · simp only [Act.put, List.setIfInBounds_toArray, List.set_cons_zero, List.set_cons_succ, i64_w, i32_w]
                                    rfl
                                  refine pure_ (i := 57) (N := some 168) (v := ?_) (a' := ?_) (bw 79 288230376151711743) rfl rfl (any_of HT_.out (by kernel_rfl)) (fun _ _ _ h => h) (Or.inl ⟨by rfl, ?_⟩) ?_ ?_
                                  rotate_left
                                  · intro w'
                                    go_simp
                                    with_reducible rfl
                                  rotate_left
                                  · simp only [Act.put, List.setIfInBounds_toArray, List.set_cons_zero, List.set_cons_succ, i64_w, i32_w]
                                    rfl
                                  refine pure_ (i := 58) (N := some 169) (v := ?_) (a' := ?_) (bw 79 576460752303423487) rfl rfl (any_of HT_.out (by kernel_rfl)) (fun _ _ _ h => h) (Or.inl ⟨by rfl, ?_⟩) ?_ ?_
                                  rotate_left
                                  · intro w'
                                    go_simp
                                    with_reducible rfl
                                  rotate_left
                                  · simp only [Act.put, List.setIfInBounds_toArray, List.set_cons_zero, List.set_cons_succ, i64_w, i32_w]
                                    rfl
                                  refine pure_ (i := 59) (N := some 170) (v := ?_) (a' := ?_) (bw 79 1152921504606846975) rfl rfl (any_of HT_.out (by kernel_rfl)) (fun _ _ _ h => h) (Or.inl ⟨by rfl, ?_⟩) ?_ ?_
                                  rotate_left
                                  · intro w'
                                    go_simp
                                    with_reducible rfl
                                  rotate_left
                                  · simp only [Act.put, List.setIfInBounds_toArray, List.set_cons_zero, List.set_cons_succ, i64_w, i32_w]
                                    rfl
                                  refine pure_ (i := 60) (N := some 171) (v := ?_) (a' := ?_) (bw 79 2305843009213693951) rfl rfl (any_of HT_.out (by kernel_rfl)) (fun _ _ _ h => h) (Or.inl ⟨by rfl, ?_⟩) ?_ ?_
                                  rotate_left
                                  · intro w'
                                    go_simp
                                    with_reducible rfl
                                  rotate_left
                                  · simp only [Act.put, List.setIfInBounds_toArray, List.set_cons_zero, List.set_cons_succ, i64_w, i32_w]
                                    rfl
                                  refine pure_ (i := 61) (N := some 172) (v := ?_) (a' := ?_) (bw 79 4611686018427387903) rfl rfl (any_of HT_.out (by kernel_rfl)) (fun _ _ _ h => h) (Or.inl ⟨by rfl, ?_⟩) ?_ ?_
                                  rotate_left
                                  · intro w'
                                    go_simp
                                    with_reducible rfl
                                  rotate_left
                                  · simp only [Act.put, List.setIfInBounds_toArray, List.set_cons_zero, List.set_cons_succ, i64_w, i32_w]
                                    rfl
                                  refine pure_ (i := 62) (N := some 173) (v := ?_) (a' := ?_) (bw 79 9223372036854775807) rfl rfl (any_of HT_.out (by kernel_rfl)) (fun _ _ _ h => h) (Or.inl ⟨by rfl, ?_⟩) ?_ ?_
                                  rotate_left
                                  · intro w'
                                    go_simp
                                    with_reducible rfl
                                  rotate_left
                                  · simp only [Act.put, List.setIfInBounds_toArray, List.set_cons_zero, List.set_cons_succ, i64_w, i32_w]
                                    rfl
                                  refine pure_ (i := 63) (N := some 174) (v := ?_) (a' := ?_) (bw 79 18446744073709551615) rfl rfl (any_of HT_.out (by kernel_rfl)) (fun _ _ _ h => h) (Or.inl ⟨by rfl, ?_⟩) ?_ ?_
                                  rotate_left
                                  · intro w'
                                    go_simp
                                    with_reducible rfl
                                  rotate_left
                                  · simp only [Act.put, List.setIfInBounds_toArray, List.set_cons_zero, List.set_cons_succ, i64_w, i32_w]
                                    rfl
                                  refine pure_ (i := 64) (N := some 175) (v := ?_) (a' := ?_) (bw 79 36893488147419103231) rfl rfl (any_of HT_.out (by kernel_rfl)) (fun _ _ _ h => h) (Or.inl ⟨by rfl, ?_⟩) ?_ ?_
                                  rotate_left
                                  · intro w'
                                    go_simp
                                    with_reducible rfl
                                  rotate_left
                                  · simp only [Act.put, List.setIfInBounds_toArray, List.set_cons_zero, List.set_cons_succ, i64_w, i32_w]
                                    rfl
                                  refine pure_ (i := 65) (N := some 176) (v := ?_) (a' := ?_) (bw 79 73786976294838206463) rfl rfl (any_of HT_.out (by kernel_rfl)) (fun _ _ _ h => h) (Or.inl ⟨by rfl, ?_⟩) ?_ ?_
                                  rotate_left
                                  · intro w'
                                    go_simp
                                    with_reducible rfl
                                  rotate_left
                                  · simp only [Act.put, List.setIfInBounds_toArray, List.set_cons_zero, List.set_cons_succ, i64_w, i32_w]
                                    rfl
                                  refine pure_ (i := 66) (N := some 177) (v := ?_) (a' := ?_) (bw 79 147573952589676412927) rfl rfl (any_of HT_.out (by kernel_rfl)) (fun _ _ _ h => h) (Or.inl ⟨by rfl, ?_⟩) ?_ ?_
                                  rotate_left
                                  · intro w'
                                    go_simp
                                    with_reducible rfl
                                  rotate_left
                                  · simp only [Act.put, List.setIfInBounds_toArray, List.set_cons_zero, List.set_cons_succ, i64_w, i32_w]
                                    rfl
                                  refine pure_ (i := 67) (N := some 178) (v := ?_) (a' := ?_) (bw 79 295147905179352825855) rfl rfl (any_of HT_.out (by kernel_rfl)) (fun _ _ _ h => h) (Or.inl ⟨by rfl, ?_⟩) ?_ ?_
                                  rotate_left
                                  · intro w'
                                    go_simp
                                    with_reducible rfl
                                  rotate_left
                                  · simp only [Act.put, List.setIfInBounds_toArray, List.set_cons_zero, List.set_cons_succ, i64_w, i32_w]
                                    rfl
                                  refine pure_ (i := 68) (N := some 179) (v := ?_) (a' := ?_) (bw 79 590295810358705651711) rfl rfl (any_of HT_.out (by kernel_rfl)) (fun _ _ _ h => h) (Or.inl ⟨by rfl, ?_⟩) ?_ ?_
                                  rotate_left
                                  · intro w'
                                    go_simp
                                    with_reducible rfl
                                  rotate_left
                                  · simp only [Act.put, List.setIfInBounds_toArray, List.set_cons_zero, List.set_cons_succ, i64_w, i32_w]
                                    rfl
                                  refine pure_ (i := 69) (N := some 180) (v := ?_) (a' := ?_) (bw 79 1180591620717411303423) rfl rfl (any_of HT_.out (by kernel_rfl)) (fun _ _ _ h => h) (Or.inl ⟨by rfl, ?_⟩) ?_ ?_
                                  rotate_left
                                  · intro w'
                                    go_simp
                                    with_reducible rfl
                                  rotate_left
                                  · simp only [Act.put, List.setIfInBounds_toArray, List.set_cons_zero, List.set_cons_succ, i64_w, i32_w]
                                    rfl
                                  refine pure_ (i := 70) (N := some 181) (v := ?_) (a' := ?_) (bw 79 2361183241434822606847) rfl rfl (any_of HT_.out (by kernel_rfl)) (fun _ _ _ h => h) (Or.inl ⟨by rfl, ?_⟩) ?_ ?_
                                  rotate_left
                                  · intro w'
                                    go_simp
                                    with_reducible rfl
                                  rotate_left
                                  · simp only [Act.put, List.setIfInBounds_toArray, List.set_cons_zero, List.set_cons_succ, i64_w, i32_w]
                                    rfl
                                  refine pure_ (i := 71) (N := some 182) (v := ?_) (a' := ?_) (bw 79 4722366482869645213695) rfl rfl (any_of HT_.out (by kernel_rfl)) (fun _ _ _ h => h) (Or.inl ⟨by rfl, ?_⟩) ?_ ?_
                                  rotate_left
                                  · intro w'
                                    go_simp
                                    with_reducible rfl
                                  rotate_left
                                  · simp only [Act.put, List.setIfInBounds_toArray, List.set_cons_zero, List.set_cons_succ, i64_w, i32_w]
                                    rfl
                                  refine pure_ (i := 72) (N := some 183) (v := ?_) (a' := ?_) (bw 79 9444732965739290427391) rfl rfl (any_of HT_.out (by kernel_rfl)) (fun _ _ _ h => h) (Or.inl ⟨by rfl, ?_⟩) ?_ ?_
                                  rotate_left
                                  · intro w'
                                    go_simp
                                    with_reducible rfl
                                  rotate_left
                                  · simp only [Act.put, List.setIfInBounds_toArray, List.set_cons_zero, List.set_cons_succ, i64_w, i32_w]
                                    rfl
                                  refine pure_ (i := 73) (N := some 184) (v := ?_) (a' := ?_) (bw 79 18889465931478580854783) rfl rfl (any_of HT_.out (by kernel_rfl)) (fun _ _ _ h => h) (Or.inl ⟨by rfl, ?_⟩) ?_ ?_
                                  rotate_left
                                  · intro w'
                                    go_simp
                                    with_reducible rfl
                                  rotate_left
                                  · simp only [Act.put, List.setIfInBounds_toArray, List.set_cons_zero, List.set_cons_succ, i64_w, i32_w]
                                    rfl
                                  refine pure_ (i := 74) (N := some 185) (v := ?_) (a' := ?_) (bw 79 37778931862957161709567) rfl rfl (any_of HT_.out (by kernel_rfl)) (fun _ _ _ h => h) (Or.inl ⟨by rfl, ?_⟩) ?_ ?_
                                  rotate_left
                                  · intro w'
                                    go_simp
                                    with_reducible rfl
                                  rotate_left
                                  · simp only [Act.put, List.setIfInBounds_toArray, List.set_cons_zero, List.set_cons_succ, i64_w, i32_w]
                                    rfl
                                  refine pure_ (i := 75) (N := some 186) (v := ?_) (a' := ?_) (bw 79 75557863725914323419135) rfl rfl (any_of HT_.out (by kernel_rfl)) (fun _ _ _ h => h) (Or.inl ⟨by rfl, ?_⟩) ?_ ?_
                                  rotate_left
                                  · intro w'
                                    go_simp
                                    with_reducible rfl
                                  rotate_left
                                  · simp only [Act.put, List.setIfInBounds_toArray, List.set_cons_zero, List.set_cons_succ, i64_w, i32_w]
                                    rfl
                                  refine pure_ (i := 76) (N := some 187) (v := ?_) (a' := ?_) (bw 79 151115727451828646838271) rfl rfl (any_of HT_.out (by kernel_rfl)) (fun _ _ _ h => h) (Or.inl ⟨by rfl, ?_⟩) ?_ ?_
                                  rotate_left
                                  · intro w'
                                    go_simp
                                    with_reducible rfl
                                  rotate_left
                                  · simp only [Act.put, List.setIfInBounds_toArray, List.set_cons_zero, List.set_cons_succ, i64_w, i32_w]
                                    rfl
                                  refine pure_ (i := 77) (N := some 188) (v := ?_) (a' := ?_) (bw 79 302231454903657293676543) rfl rfl (any_of HT_.out (by kernel_rfl)) (fun _ _ _ h => h) (Or.inl ⟨by rfl, ?_⟩) ?_ ?_
                                  rotate_left
                                  · intro w'
                                    go_simp
                                    with_reducible rfl
                                  rotate_left
                                  · simp only [Act.put, List.setIfInBounds_toArray, List.set_cons_zero, List.set_cons_succ, i64_w, i32_w]
                                    rfl
                                  refine pure_ (i := 78) (N := some 8) (v := ?_) (a' := ?_) (bw 79 604462909807314587353087) rfl rfl (any_of HT_.out (by kernel_rfl)) (fun _ _ _ h => h) (Or.inl ⟨by rfl, ?_⟩) ?_ ?_
                                  rotate_left
                                  · intro w'
                                    go_simp
                                    with_reducible rfl
                                  rotate_left
                                  · simp only [Act.put, List.setIfInBounds_toArray, List.set_cons_zero, List.set_cons_succ, i64_w, i32_w]
                                    rfl
                                  refine done_ (done_of HT_.out (by kernel_rfl)) ?_
                                  try go_wp2
                                  go_ret
                                  exact ⟨by first | rfl | (simp [errW_none, errW_some] <;> rfl) | (simp [*, errW_none, errW_some] <;> rfl), by repeat (first | (with_reducible first | exact HB.out | apply below_alloc | apply pw_below_drewN | apply below_drew1 | refine below_set ?_ GE348.out | refine below_set ?_ GE371.out | refine below_set ?_ GE379.out) | exact HB.out)⟩
                                · rw [if_neg c38] at H
                                  have c38b0 : (t384 == t386) = false := beq_eq_false_iff_ne.mpr c38
                                  have c38b1 : (t384 != t386) = true := bne_iff_ne.mpr c38
                                  exact absurd H (by simp)
                              · rw [if_neg c37] at H
                                have c37b0 : (t381 == t383) = false := by simpa using c37
                                (try (have c37b1 : decide (t381 = t383) = false := by simpa using c37))
                                (try (have c37b2 : (t381 == t383) = false := by simpa using c37))
                                (try (have c37b3 : ¬ (t381 = t383) := by simpa using c37))
                                clear c37
                                exact absurd H (by simp)
                            · rw [if_neg c36] at H
                              have c36b0 : (t380 == t382) = false := beq_eq_false_iff_ne.mpr c36
                              have c36b1 : (t380 != t382) = true := bne_iff_ne.mpr c36
                              exact absurd H (by simp)
                          · rw [if_neg c35] at H
                            have c35b0 : (t370 == t378) = false := by simpa using c35
                            (try (have c35b1 : decide (t370 = t378) = false := by simpa using c35))
                            (try (have c35b2 : (t370 == t378) = false := by simpa using c35))
                            (try (have c35b3 : ¬ (t370 = t378) := by simpa using c35))
                            clear c35
                            exact absurd H (by simp)
                        · rw [if_neg c34] at H
                          have c34b0 : (t369.toList == t377.toList) = false := beq_eq_false_iff_ne.mpr c34
                          have c34b1 : (t369.toList != t377.toList) = true := bne_iff_ne.mpr c34
                          exact absurd H (by simp)
                      · rw [if_neg c33] at H
                        have c33b0 : (t364 == t372 && (t365 == t373 && (t366 == t374 && (t367 == t375 && (t368 == t376))))) = false := by simpa using c33
                        (try (have c33b1 : decide (t364 = t372 && (t365 == t373 && (t366 == t374 && (t367 == t375 && (t368 == t376))))) = false := by simpa using c33))
                        (try (have c33b2 : (t364 == t372 && (t365 == t373 && (t366 == t374 && (t367 == t375 && (t368 == t376))))) = false := by simpa using c33))
                        (try (have c33b3 : ¬ (t364 = t372 && (t365 == t373 && (t366 == t374 && (t367 == t375 && (t368 == t376))))) := by simpa using c33))
                        clear c33
                        exact absurd H (by simp)
                    · rw [if_neg c32] at H
                      have c32b0 : (t361 == t363) = false := by simpa using c32
                      (try (have c32b1 : decide (t361 = t363) = false := by simpa using c32))
                      (try (have c32b2 : (t361 == t363) = false := by simpa using c32))
                      (try (have c32b3 : ¬ (t361 = t363) := by simpa using c32))
                      clear c32
                      exact absurd H (by simp)
                  · rw [if_neg c31] at H
                    have c31b0 : (t360.toList == t362.toList) = false := beq_eq_false_iff_ne.mpr c31
                    have c31b1 : (t360.toList != t362.toList) = true := bne_iff_ne.mpr c31
                    exact absurd H (by simp)
                · rw [if_neg c30] at H
                  have c30b0 : (t356 == t359) = false := by simpa using c30
                  (try (have c30b1 : decide (t356 = t359) = false := by simpa using c30))
                  (try (have c30b2 : (t356 == t359) = false := by simpa using c30))
                  (try (have c30b3 : ¬ (t356 = t359) := by simpa using c30))
                  clear c30
                  exact absurd H (by simp)
              · rw [if_neg c29] at H
                have c29b0 : (t355.toList == t358.toList) = false := beq_eq_false_iff_ne.mpr c29
                have c29b1 : (t355.toList != t358.toList) = true := bne_iff_ne.mpr c29
                exact absurd H (by simp)
            · rw [if_neg c28] at H
              have c28b0 : (t354 == t357) = false := beq_eq_false_iff_ne.mpr c28
              have c28b1 : (t354 != t357) = true := bne_iff_ne.mpr c28
              exact absurd H (by simp)
          · rw [if_neg c27] at H
            have c27b0 : (t351 == t353) = false := by simpa using c27
            (try (have c27b1 : decide (t351 = t353) = false := by simpa using c27))
            (try (have c27b2 : (t351 == t353) = false := by simpa using c27))
            (try (have c27b3 : ¬ (t351 = t353) := by simpa using c27))
            clear c27
            exact absurd H (by simp)
        · rw [if_neg c26] at H
          have c26b0 : (t350.toList == t352.toList) = false := beq_eq_false_iff_ne.mpr c26
          have c26b1 : (t350.toList != t352.toList) = true := bne_iff_ne.mpr c26
          exact absurd H (by simp)
      · rw [if_neg c25] at H
        have c25b0 : (t388 == t389) = false := by simpa using c25
        (try (have c25b1 : decide (t388 = t389) = false := by simpa using c25))
        (try (have c25b2 : (t388 == t389) = false := by simpa using c25))
        (try (have c25b3 : ¬ (t388 = t389) := by simpa using c25))
        clear c25
        exact absurd H (by simp)
    · replace c22 := Bool.eq_false_iff.mpr c22
      subst c22
      have H1 : (some false) = some true := by rw [if_neg (show ¬ (false = true) by decide)] at H; exact H
      clear H
      have H := H1
      clear H1
      exact absurd H (by simp)

end Go.Proofs.YtghjemcbkackjaaDoor.P
