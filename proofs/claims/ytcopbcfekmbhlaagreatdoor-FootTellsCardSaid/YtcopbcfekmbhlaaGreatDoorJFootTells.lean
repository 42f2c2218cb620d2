/- FootTells: for every input the law returns true, and its arguments read as before. Conditions: the listed package-level variables hold what the program's text lays (tied by the card). -/
import Derived.Test.YtcopbcfekmbhlaaGreatDoorJFootTells3
import Derived.Test.YtcopbcfekmbhlaaGreatDoorRows
import Derived.Test.YtcopbcfekmbhlaaGreatDoorCards
import Derived.Test.YtcopbcfekmbhlaaGreatDoorTie
import Derived.WalkKit
import Derived.ProofKit
import Derived.OpenShut
import Derived.ShutString
import Derived.ChangeOld
import Derived.Below
import Derived.SizedLaws
import Derived.LaidMore
import Derived.Stop.Joined
import Derived.Stop.LaidErr
import Derived.Lib.LaidTab
import Derived.SevenTiedAt
import Derived.Lib.SmallJoins
import Derived.MakeChecks
section
set_option linter.unusedVariables false
set_option linter.unusedSimpArgs false
namespace Go.Proofs.YtcopbcfekmbhlaaGreatDoor.footTells
open Go Go.Proofs.YtcopbcfekmbhlaaGreatDoor.Eng Go.ChangeShapes Go.WideShapes Go.ChangeAt Go.RowKit Go.Joins Go.Deep
open Go.ChangeMaps (open_string shut_string)
set_option linter.unusedVariables false
set_option linter.unusedSimpArgs false
theorem own : ownKnob Tryz.prog.godebug = none := by kernel_rfl
theorem laidOut : laidOutB Tryz.prog = true := by kernel_rfl
abbrev laidL : List (String × DataW Unit) := [("math/bits.deBruijn32tab", Rows.laid_math_bits_deBruijn32tab), ("math/bits.deBruijn64tab", Rows.laid_math_bits_deBruijn64tab), ("internal/strconv.uint64pow10", Rows.laid_internal_strconv_uint64pow10), ("strconv.ErrRange", Rows.laid_strconv_ErrRange), ("strconv.ErrSyntax", Rows.laid_strconv_ErrSyntax)]
theorem door_met (os : Os) (args : Array Value) : laidMetH Tryz.prog laidL ((World.doorLaid Tryz.prog 62 os).forCall (fun _ _ => 0) ⟨#[], args, []⟩).memory :=
  laidMetH_of_parts3 (fuel := 8) (laidMet_of_run' 8 (by kernel_rfl) (by kernel_rfl)) (by kernel_rfl) (by kernel_rfl)
theorem laid_tab : (Rows.laid_internal_strconv_uint64pow10 : DataW Unit) = Lib.tabData .u64 Lib.pow10Tab := by rfl
theorem of_laid {W : World} (h : laidMetH Tryz.prog laidL W) : Lib.TabIs Tryz.prog W "internal/strconv.uint64pow10" .u64 Lib.pow10Tab := by
  rw [MakeChecks.laidMetH_plain _ _ _ (by kernel_rfl)] at h
  have h' := h.tail.tail
  rw [laid_tab] at h'
  exact Lib.tabIs_of_head globN (by kernel_rfl) Tryz.underlying112 Tryz.underlying97 (by kernel_rfl) (by kernel_rfl) h'
theorem len3 {α : Type} : ∀ l : List α, l.length = 3 → ∃ z0 z1 z2, l = [z0, z1, z2]
  | [z0, z1, z2], _ => ⟨z0, z1, z2, rfl⟩
theorem len5 {α : Type} : ∀ l : List α, l.length = 5 → ∃ z0 z1 z2 z3 z4, l = [z0, z1, z2, z3, z4]
  | [z0, z1, z2, z3, z4], _ => ⟨z0, z1, z2, z3, z4, rfl⟩
theorem len17 {α : Type} : ∀ l : List α, l.length = 17 → ∃ z0 z1 z2 z3 z4 z5 z6 z7 z8 z9 z10 z11 z12 z13 z14 z15 z16, l = [z0, z1, z2, z3, z4, z5, z6, z7, z8, z9, z10, z11, z12, z13, z14, z15, z16]
  | [z0, z1, z2, z3, z4, z5, z6, z7, z8, z9, z10, z11, z12, z13, z14, z15, z16], _ => ⟨z0, z1, z2, z3, z4, z5, z6, z7, z8, z9, z10, z11, z12, z13, z14, z15, z16, rfl⟩
set_option maxRecDepth 100000 in
set_option maxHeartbeats 8000000 in
theorem lifted (os : Os) (started : os.Started) (H : Type) (enc : TypeId × Value → H) :
    ReturnsInHanded {} Tryz.checked os 3 .any (fun w args => (Rows.footTellsSpec.pre enc Tryz.prog Tryz.f3 [] false w args ∧ laidMetH Tryz.prog laidL w) ∧ sizedMet enc Tryz.prog Tryz.f3 (OpenSpec.ofChange Rows.footTellsSpec) false w args)
      (Rows.footTellsSpec.post enc Tryz.prog Tryz.f3 false true false false) := by
  refine returnsInHanded_of_change_and (C := Tryz.checked) (X := fun w _ => laidMetH Tryz.prog laidL w) (fun _ _ _ hh h => h.of_heap hh) own started (by kernel_rfl) Tryz.func3
    (ChangeSpec.witness_shaped (enc := enc) (C := Tryz.checked) (os := os) (X := fun w _ => laidMetH Tryz.prog laidL w) false (World.doorLaid Tryz.prog 62 os) #[.agg #[.int .i64 0, .bool false, .string ByteArray.empty, .int .i64 0, .bool false, .string ByteArray.empty, .bool false, .int .i64 0, .int .i64 0, .int .i64 0, .int .i64 0, .int .i64 0, .int .i64 0, .int .i64 0, .int .i64 0, .int .i64 0, .int .i64 0], .string ByteArray.empty, .int .i64 0, .int .i64 0] 8 rfl (World.shaped_of_RefB (by kernel_rfl) (by kernel_rfl)) (by kernel_rfl) (by kernel_rfl) (by kernel_rfl) (door_met os _)) ?_
  intro W base args ds gs before hval0 hW hcnd hsz0 hL _
  obtain ⟨G, hG⟩ := gs_of (of_laid hL)
  have hsz : (DataW.weightsEach Tryz.prog (Tryz.f3.params.toList ++ Rows.footTellsSpec.plain.varTypes Tryz.prog) (ds ++ gs)).all (· ≤ reachBytes) = true := hsz0
  have hval : ∀ (j : Nat) t v, Tryz.f3.params[j]? = some t → args[j]? = some v → Value.okWide Tryz.prog W .any base t v := hval0
  have hW' := hW
  obtain ⟨p, q, hA0, hV, rfl, hfz, hnd⟩ := hW
  have hA : DataW.TrodAll enc Tryz.prog W 0 (fun _ => true) true Tryz.f3.params.toList args.toList ds p := hA0
  rw [Tryz.params3] at hA hval hsz
  obtain ⟨v0, vs0, d0, ds0, p0, q0, hargs, rfl, rfl, h0, r0⟩ := trodAll_cons hA
  obtain ⟨v1, vs1, d1, ds1, p1, q1, rfl, rfl, rfl, h1, r1⟩ := trodAll_cons r0
  obtain ⟨v2, vs2, d2, ds2, p2, q2, rfl, rfl, rfl, h2, r2⟩ := trodAll_cons r1
  obtain ⟨v3, vs3, d3, ds3, p3, q3, rfl, rfl, rfl, h3, r3⟩ := trodAll_cons r2
  obtain ⟨rfl, rfl, rfl⟩ := trodAll_nil r3
  obtain rfl : args = #[v0, v1, v2, v3] := by cases args; simp_all
  obtain ⟨rfl, rfl⟩ := trodVars_none hV
  have k0 := h0
  have lt0 : ∀ x ∈ p0, x.block < W.heap.size := by obtain ⟨m, hm⟩ := k0; exact DataW.trod_lt m _ _ _ hm
  obtain ⟨cs0, rfl, hsz0⟩ := okWide_struct Tryz.underlying27 (hval 0 27 v0 rfl rfl)
  have hC0 : Tryz.prog.cellsOf 27 = 17 := by kernel_rfl
  obtain ⟨⟨l0⟩, rfl⟩ : ∃ z : Array Value, z = cs0 := ⟨_, rfl⟩
  obtain ⟨c0_0, c0_1, c0_2, c0_3, c0_4, c0_5, c0_6, c0_7, c0_8, c0_9, c0_10, c0_11, c0_12, c0_13, c0_14, c0_15, c0_16, rfl⟩ := len17 l0 (hsz0.trans hC0)
  obtain ⟨fuel0, hf0⟩ := h0
  obtain ⟨xs0, m0, _, hx0, _, hlen0, hg0⟩ := DataW.trod_struct Tryz.underlying27 hf0
  obtain ⟨y0_0, y0_1, y0_2, y0_3, y0_4, rfl⟩ := len5 xs0 hlen0
  have e0_0 : DataW.trod enc Tryz.prog W 0 (fun _ => true) true m0 23 [c0_0, c0_1, c0_2] = some y0_0 := (congrArg (DataW.trod enc Tryz.prog W 0 (fun _ => true) true m0 23) (show [c0_0, c0_1, c0_2] = ([c0_0, c0_1, c0_2, c0_3, c0_4, c0_5, c0_6, c0_7, c0_8, c0_9, c0_10, c0_11, c0_12, c0_13, c0_14, c0_15, c0_16].drop 0).take (Tryz.prog.cellsOf 23) by kernel_rfl)).trans (hg0 0 _ rfl)
  obtain ⟨xs0_0, m0_0, _, hx0_0, _, hlen0_0, hg0_0⟩ := DataW.trod_struct Tryz.underlying23 e0_0
  obtain ⟨y0_0_0, y0_0_1, y0_0_2, rfl⟩ := len3 xs0_0 hlen0_0
  have e0_0_0 : DataW.trod enc Tryz.prog W 0 (fun _ => true) true m0_0 3 [c0_0] = some y0_0_0 := (congrArg (DataW.trod enc Tryz.prog W 0 (fun _ => true) true m0_0 3) (show [c0_0] = ([c0_0, c0_1, c0_2].drop 0).take (Tryz.prog.cellsOf 3) by kernel_rfl)).trans (hg0_0 0 _ rfl)
  have e0_0_1 : DataW.trod enc Tryz.prog W 0 (fun _ => true) true m0_0 4 [c0_1] = some y0_0_1 := (congrArg (DataW.trod enc Tryz.prog W 0 (fun _ => true) true m0_0 4) (show [c0_1] = ([c0_0, c0_1, c0_2].drop 1).take (Tryz.prog.cellsOf 4) by kernel_rfl)).trans (hg0_0 1 _ rfl)
  have e0_0_2 : DataW.trod enc Tryz.prog W 0 (fun _ => true) true m0_0 9 [c0_2] = some y0_0_2 := (congrArg (DataW.trod enc Tryz.prog W 0 (fun _ => true) true m0_0 9) (show [c0_2] = ([c0_0, c0_1, c0_2].drop 2).take (Tryz.prog.cellsOf 9) by kernel_rfl)).trans (hg0_0 2 _ rfl)
  have e0_1 : DataW.trod enc Tryz.prog W 0 (fun _ => true) true m0 23 [c0_3, c0_4, c0_5] = some y0_1 := (congrArg (DataW.trod enc Tryz.prog W 0 (fun _ => true) true m0 23) (show [c0_3, c0_4, c0_5] = ([c0_0, c0_1, c0_2, c0_3, c0_4, c0_5, c0_6, c0_7, c0_8, c0_9, c0_10, c0_11, c0_12, c0_13, c0_14, c0_15, c0_16].drop 3).take (Tryz.prog.cellsOf 23) by kernel_rfl)).trans (hg0 1 _ rfl)
  obtain ⟨xs0_1, m0_1, _, hx0_1, _, hlen0_1, hg0_1⟩ := DataW.trod_struct Tryz.underlying23 e0_1
  obtain ⟨y0_1_0, y0_1_1, y0_1_2, rfl⟩ := len3 xs0_1 hlen0_1
  have e0_1_0 : DataW.trod enc Tryz.prog W 0 (fun _ => true) true m0_1 3 [c0_3] = some y0_1_0 := (congrArg (DataW.trod enc Tryz.prog W 0 (fun _ => true) true m0_1 3) (show [c0_3] = ([c0_3, c0_4, c0_5].drop 0).take (Tryz.prog.cellsOf 3) by kernel_rfl)).trans (hg0_1 0 _ rfl)
  have e0_1_1 : DataW.trod enc Tryz.prog W 0 (fun _ => true) true m0_1 4 [c0_4] = some y0_1_1 := (congrArg (DataW.trod enc Tryz.prog W 0 (fun _ => true) true m0_1 4) (show [c0_4] = ([c0_3, c0_4, c0_5].drop 1).take (Tryz.prog.cellsOf 4) by kernel_rfl)).trans (hg0_1 1 _ rfl)
  have e0_1_2 : DataW.trod enc Tryz.prog W 0 (fun _ => true) true m0_1 9 [c0_5] = some y0_1_2 := (congrArg (DataW.trod enc Tryz.prog W 0 (fun _ => true) true m0_1 9) (show [c0_5] = ([c0_3, c0_4, c0_5].drop 2).take (Tryz.prog.cellsOf 9) by kernel_rfl)).trans (hg0_1 2 _ rfl)
  have e0_2 : DataW.trod enc Tryz.prog W 0 (fun _ => true) true m0 4 [c0_6] = some y0_2 := (congrArg (DataW.trod enc Tryz.prog W 0 (fun _ => true) true m0 4) (show [c0_6] = ([c0_0, c0_1, c0_2, c0_3, c0_4, c0_5, c0_6, c0_7, c0_8, c0_9, c0_10, c0_11, c0_12, c0_13, c0_14, c0_15, c0_16].drop 6).take (Tryz.prog.cellsOf 4) by kernel_rfl)).trans (hg0 2 _ rfl)
  have e0_3 : DataW.trod enc Tryz.prog W 0 (fun _ => true) true m0 25 [c0_7, c0_8, c0_9, c0_10, c0_11] = some y0_3 := (congrArg (DataW.trod enc Tryz.prog W 0 (fun _ => true) true m0 25) (show [c0_7, c0_8, c0_9, c0_10, c0_11] = ([c0_0, c0_1, c0_2, c0_3, c0_4, c0_5, c0_6, c0_7, c0_8, c0_9, c0_10, c0_11, c0_12, c0_13, c0_14, c0_15, c0_16].drop 7).take (Tryz.prog.cellsOf 25) by kernel_rfl)).trans (hg0 3 _ rfl)
  obtain ⟨xs0_3, m0_3, _, hx0_3, _, hlen0_3, hg0_3⟩ := DataW.trod_struct Tryz.underlying25 e0_3
  obtain ⟨y0_3_0, y0_3_1, y0_3_2, y0_3_3, y0_3_4, rfl⟩ := len5 xs0_3 hlen0_3
  have e0_3_0 : DataW.trod enc Tryz.prog W 0 (fun _ => true) true m0_3 3 [c0_7] = some y0_3_0 := (congrArg (DataW.trod enc Tryz.prog W 0 (fun _ => true) true m0_3 3) (show [c0_7] = ([c0_7, c0_8, c0_9, c0_10, c0_11].drop 0).take (Tryz.prog.cellsOf 3) by kernel_rfl)).trans (hg0_3 0 _ rfl)
  have e0_3_1 : DataW.trod enc Tryz.prog W 0 (fun _ => true) true m0_3 3 [c0_8] = some y0_3_1 := (congrArg (DataW.trod enc Tryz.prog W 0 (fun _ => true) true m0_3 3) (show [c0_8] = ([c0_7, c0_8, c0_9, c0_10, c0_11].drop 1).take (Tryz.prog.cellsOf 3) by kernel_rfl)).trans (hg0_3 1 _ rfl)
  have e0_3_2 : DataW.trod enc Tryz.prog W 0 (fun _ => true) true m0_3 3 [c0_9] = some y0_3_2 := (congrArg (DataW.trod enc Tryz.prog W 0 (fun _ => true) true m0_3 3) (show [c0_9] = ([c0_7, c0_8, c0_9, c0_10, c0_11].drop 2).take (Tryz.prog.cellsOf 3) by kernel_rfl)).trans (hg0_3 2 _ rfl)
  have e0_3_3 : DataW.trod enc Tryz.prog W 0 (fun _ => true) true m0_3 3 [c0_10] = some y0_3_3 := (congrArg (DataW.trod enc Tryz.prog W 0 (fun _ => true) true m0_3 3) (show [c0_10] = ([c0_7, c0_8, c0_9, c0_10, c0_11].drop 3).take (Tryz.prog.cellsOf 3) by kernel_rfl)).trans (hg0_3 3 _ rfl)
  have e0_3_4 : DataW.trod enc Tryz.prog W 0 (fun _ => true) true m0_3 3 [c0_11] = some y0_3_4 := (congrArg (DataW.trod enc Tryz.prog W 0 (fun _ => true) true m0_3 3) (show [c0_11] = ([c0_7, c0_8, c0_9, c0_10, c0_11].drop 4).take (Tryz.prog.cellsOf 3) by kernel_rfl)).trans (hg0_3 4 _ rfl)
  have e0_4 : DataW.trod enc Tryz.prog W 0 (fun _ => true) true m0 25 [c0_12, c0_13, c0_14, c0_15, c0_16] = some y0_4 := (congrArg (DataW.trod enc Tryz.prog W 0 (fun _ => true) true m0 25) (show [c0_12, c0_13, c0_14, c0_15, c0_16] = ([c0_0, c0_1, c0_2, c0_3, c0_4, c0_5, c0_6, c0_7, c0_8, c0_9, c0_10, c0_11, c0_12, c0_13, c0_14, c0_15, c0_16].drop 12).take (Tryz.prog.cellsOf 25) by kernel_rfl)).trans (hg0 4 _ rfl)
  obtain ⟨xs0_4, m0_4, _, hx0_4, _, hlen0_4, hg0_4⟩ := DataW.trod_struct Tryz.underlying25 e0_4
  obtain ⟨y0_4_0, y0_4_1, y0_4_2, y0_4_3, y0_4_4, rfl⟩ := len5 xs0_4 hlen0_4
  have e0_4_0 : DataW.trod enc Tryz.prog W 0 (fun _ => true) true m0_4 3 [c0_12] = some y0_4_0 := (congrArg (DataW.trod enc Tryz.prog W 0 (fun _ => true) true m0_4 3) (show [c0_12] = ([c0_12, c0_13, c0_14, c0_15, c0_16].drop 0).take (Tryz.prog.cellsOf 3) by kernel_rfl)).trans (hg0_4 0 _ rfl)
  have e0_4_1 : DataW.trod enc Tryz.prog W 0 (fun _ => true) true m0_4 3 [c0_13] = some y0_4_1 := (congrArg (DataW.trod enc Tryz.prog W 0 (fun _ => true) true m0_4 3) (show [c0_13] = ([c0_12, c0_13, c0_14, c0_15, c0_16].drop 1).take (Tryz.prog.cellsOf 3) by kernel_rfl)).trans (hg0_4 1 _ rfl)
  have e0_4_2 : DataW.trod enc Tryz.prog W 0 (fun _ => true) true m0_4 3 [c0_14] = some y0_4_2 := (congrArg (DataW.trod enc Tryz.prog W 0 (fun _ => true) true m0_4 3) (show [c0_14] = ([c0_12, c0_13, c0_14, c0_15, c0_16].drop 2).take (Tryz.prog.cellsOf 3) by kernel_rfl)).trans (hg0_4 2 _ rfl)
  have e0_4_3 : DataW.trod enc Tryz.prog W 0 (fun _ => true) true m0_4 3 [c0_15] = some y0_4_3 := (congrArg (DataW.trod enc Tryz.prog W 0 (fun _ => true) true m0_4 3) (show [c0_15] = ([c0_12, c0_13, c0_14, c0_15, c0_16].drop 3).take (Tryz.prog.cellsOf 3) by kernel_rfl)).trans (hg0_4 3 _ rfl)
  have e0_4_4 : DataW.trod enc Tryz.prog W 0 (fun _ => true) true m0_4 3 [c0_16] = some y0_4_4 := (congrArg (DataW.trod enc Tryz.prog W 0 (fun _ => true) true m0_4 3) (show [c0_16] = ([c0_12, c0_13, c0_14, c0_15, c0_16].drop 4).take (Tryz.prog.cellsOf 3) by kernel_rfl)).trans (hg0_4 4 _ rfl)
  obtain ⟨a0_0, eqa0_0, _, wa0_0⟩ := DataW.trod_int Tryz.underlying3 e0_0_0
  obtain rfl : c0_0 = .int .i64 a0_0 := by simpa using eqa0_0
  obtain ⟨a0_1, eqa0_1, _⟩ := DataW.trod_bool Tryz.underlying4 e0_0_1
  obtain rfl : c0_1 = .bool a0_1 := by simpa using eqa0_1
  obtain ⟨a0_2, eqa0_2, _, za0_2⟩ := DataW.trod_string Tryz.underlying9 e0_0_2
  obtain rfl : c0_2 = .string a0_2 := by simpa using eqa0_2
  obtain ⟨a0_3, eqa0_3, _, wa0_3⟩ := DataW.trod_int Tryz.underlying3 e0_1_0
  obtain rfl : c0_3 = .int .i64 a0_3 := by simpa using eqa0_3
  obtain ⟨a0_4, eqa0_4, _⟩ := DataW.trod_bool Tryz.underlying4 e0_1_1
  obtain rfl : c0_4 = .bool a0_4 := by simpa using eqa0_4
  obtain ⟨a0_5, eqa0_5, _, za0_5⟩ := DataW.trod_string Tryz.underlying9 e0_1_2
  obtain rfl : c0_5 = .string a0_5 := by simpa using eqa0_5
  obtain ⟨a0_6, eqa0_6, _⟩ := DataW.trod_bool Tryz.underlying4 e0_2
  obtain rfl : c0_6 = .bool a0_6 := by simpa using eqa0_6
  obtain ⟨a0_7, eqa0_7, _, wa0_7⟩ := DataW.trod_int Tryz.underlying3 e0_3_0
  obtain rfl : c0_7 = .int .i64 a0_7 := by simpa using eqa0_7
  obtain ⟨a0_8, eqa0_8, _, wa0_8⟩ := DataW.trod_int Tryz.underlying3 e0_3_1
  obtain rfl : c0_8 = .int .i64 a0_8 := by simpa using eqa0_8
  obtain ⟨a0_9, eqa0_9, _, wa0_9⟩ := DataW.trod_int Tryz.underlying3 e0_3_2
  obtain rfl : c0_9 = .int .i64 a0_9 := by simpa using eqa0_9
  obtain ⟨a0_10, eqa0_10, _, wa0_10⟩ := DataW.trod_int Tryz.underlying3 e0_3_3
  obtain rfl : c0_10 = .int .i64 a0_10 := by simpa using eqa0_10
  obtain ⟨a0_11, eqa0_11, _, wa0_11⟩ := DataW.trod_int Tryz.underlying3 e0_3_4
  obtain rfl : c0_11 = .int .i64 a0_11 := by simpa using eqa0_11
  obtain ⟨a0_12, eqa0_12, _, wa0_12⟩ := DataW.trod_int Tryz.underlying3 e0_4_0
  obtain rfl : c0_12 = .int .i64 a0_12 := by simpa using eqa0_12
  obtain ⟨a0_13, eqa0_13, _, wa0_13⟩ := DataW.trod_int Tryz.underlying3 e0_4_1
  obtain rfl : c0_13 = .int .i64 a0_13 := by simpa using eqa0_13
  obtain ⟨a0_14, eqa0_14, _, wa0_14⟩ := DataW.trod_int Tryz.underlying3 e0_4_2
  obtain rfl : c0_14 = .int .i64 a0_14 := by simpa using eqa0_14
  obtain ⟨a0_15, eqa0_15, _, wa0_15⟩ := DataW.trod_int Tryz.underlying3 e0_4_3
  obtain rfl : c0_15 = .int .i64 a0_15 := by simpa using eqa0_15
  obtain ⟨a0_16, eqa0_16, _, wa0_16⟩ := DataW.trod_int Tryz.underlying3 e0_4_4
  obtain rfl : c0_16 = .int .i64 a0_16 := by simpa using eqa0_16
  have k1 := h1
  have lt1 : ∀ x ∈ p1, x.block < W.heap.size := by obtain ⟨m, hm⟩ := k1; exact DataW.trod_lt m _ _ _ hm
  obtain ⟨a1, rfl, rfl, rfl, y1⟩ := open_string Tryz.underlying9 (hval 1 9 v1 rfl rfl) h1
  have wa1 : a1.size ≤ 140737488351232 := by
    have z := sized_string hsz (j := 1) (t := 9) rfl rfl
    rw [Array.length_toList] at z
    exact z
  have k2 := h2
  have lt2 : ∀ x ∈ p2, x.block < W.heap.size := by obtain ⟨m, hm⟩ := k2; exact DataW.trod_lt m _ _ _ hm
  obtain ⟨a2, rfl, rfl, rfl, wa2⟩ := open_int Tryz.underlying3 (hval 2 3 v2 rfl rfl) h2
  have k3 := h3
  have lt3 : ∀ x ∈ p3, x.block < W.heap.size := by obtain ⟨m, hm⟩ := k3; exact DataW.trod_lt m _ _ _ hm
  obtain ⟨a3, rfl, rfl, rfl, wa3⟩ := open_int Tryz.underlying3 (hval 3 3 v3 rfl rfl) h3
  clear hA0 hval0 hsz0 hsz
  have hk := pureFootTells a0_0 a0_1 a0_2 a0_3 a0_4 a0_5 a0_6 a0_7 a0_8 a0_9 a0_10 a0_11 a0_12 a0_13 a0_14 a0_15 a0_16 a1 a2 a3 wa0_0 wa0_3 wa0_7 wa0_8 wa0_9 wa0_10 wa0_11 wa0_12 wa0_13 wa0_14 wa0_15 wa0_16 wa1 wa2 wa3
  refine (law_calls Iepactlaw18_FootTells_ok ((a0_0, a0_1, a0_2, a0_3, a0_4, a0_5, a0_6, a0_7, a0_8, a0_9, a0_10, a0_11, a0_12, a0_13, a0_14, a0_15, a0_16, ()), a1, a2, a3, ()) hk W hG (cs := [.agg #[.int .i64 a0_0, .bool a0_1, .string a0_2, .int .i64 a0_3, .bool a0_4, .string a0_5, .bool a0_6, .int .i64 a0_7, .int .i64 a0_8, .int .i64 a0_9, .int .i64 a0_10, .int .i64 a0_11, .int .i64 a0_12, .int .i64 a0_13, .int .i64 a0_14, .int .i64 a0_15, .int .i64 a0_16], .string a1, .int .i64 a2, .int .i64 a3]) ⟨vr_agg ⟨.c rfl, .c rfl, .c rfl, .c rfl, .c rfl, .c rfl, .c rfl, .c rfl, .c rfl, .c rfl, .c rfl, .c rfl, .c rfl, .c rfl, .c rfl, .c rfl, .c rfl, trivial⟩ rfl, .c rfl, .c rfl, .c rfl, trivial⟩).mono fun e W' ⟨he, bel⟩ => ?_
  subst he
  exact ⟨_, rfl, _, _, _, [], _, [], hW', trodAll_mk1 (shut_bool Tryz.underlying4 _), (trodAll_cons_mk (Below.trod laidOut (by kernel_rfl) (of_decide_eq_true (by kernel_rfl)) k0 bel lt0) (trodAll_cons_mk (Below.trod laidOut (by kernel_rfl) (of_decide_eq_true (by kernel_rfl)) k1 bel lt1) (trodAll_cons_mk (Below.trod laidOut (by kernel_rfl) (of_decide_eq_true (by kernel_rfl)) k2 bel lt2) (trodAll_cons_mk (Below.trod laidOut (by kernel_rfl) (of_decide_eq_true (by kernel_rfl)) k3 bel lt3) trodAll_mk0)))), rfl, bel.frame _, fun h => by cases h⟩
theorem over : Rows.footTellsRow.holds Tryz.pinned (OpenSpec.ofChange Rows.footTellsSpec) :=
  OpenClaim.holds_of_wide 3 Tryz.f3 rfl rfl rfl rfl rfl rfl rfl ⟨rfl, rfl, rfl, rfl, rfl⟩ rfl rfl rfl rfl rfl (by kernel_rfl) Tryz.func3 (by kernel_rfl)
    (of_decide_eq_true (by kernel_rfl)) (by unfold Func.isWrapper; first | (rw [if_pos (by decide +kernel)]; kernel_rfl) | (rw [if_neg (by decide +kernel)]; exact ⟨rfl, rfl⟩))
    (fun os started H enc _ => lifted os started H enc)
theorem proved : Rows.FootTellsCardSaid :=
  Claim7.holds_tied_plain_at .later [] [.data, .data, .data, .sentinel, .sentinel] true (true, "9aeb28816afd7b6773e1276c86e38bbb11c8376ca0e3a534fc88da57aaaae06f") true
    over (fun _ h => by cases h) (by kernel_rfl) (fun _ h => by cases h) footTells_row_tie rfl ⟨rfl, rfl⟩ (by kernel_rfl) rfl
    (fun f fn hf hfn => by
      obtain rfl : f = 3 := Option.some.inj ((show Tryz.prog.funcNamed "epact/epactlaw18.FootTells" = some 3 by kernel_rfl).symm.trans hf) |>.symm
      obtain rfl : fn = Tryz.f3 := (Option.some.inj (Tryz.func3.symm.trans hfn)).symm
      exact ⟨by kernel_rfl, fun j t ht => by
        rw [Tryz.params3] at ht
        have hm : t ∈ ([27, 9, 3, 3] : List Nat) := by simpa using Array.mem_of_getElem? ht
        have hall : (([27, 9, 3, 3] : List Nat).all fun u => !Tryz.prog.wantsStandIn u) = true := by kernel_rfl
        exact (show Tryz.prog.wantsStandIn t = false by simpa using List.all_eq_true.1 hall t hm)⟩)
    (by kernel_rfl)
#print axioms proved
end Go.Proofs.YtcopbcfekmbhlaaGreatDoor.footTells
end
