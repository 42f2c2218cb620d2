/- FaultTells: for every input the law returns true, and its arguments read as before. Conditions: the listed package-level variables hold what the program's text lays (tied by the card). -/
import Derived.Test.YtghjemcbkackjaaDoorRows
import Derived.Test.YtghjemcbkackjaaDoorCards
import Derived.Test.YtghjemcbkackjaaDoorTie
import Derived.Test.YtghjemcbkackjaaDoorStFaultTells
import Derived.Test.YtghjemcbkackjaaDoorPureFaultTells
import Derived.WalkKit
import Derived.ProofKit
import Derived.OpenShut
import Derived.ShutString
import Derived.ChangeOld
import Derived.Below
import Derived.SizedLaws
import Derived.LaidMore
import Derived.Stop.Joined
import Derived.Stop.LaidErr
import Derived.Lib.LaidTab
import Derived.SevenTiedAt
import Derived.Lib.SmallJoins
import Derived.MakeChecks
import Derived.Test.YtghjemcbkackjaaDoorWSized
import Derived.Test.YtghjemcbkackjaaDoorSlices
namespace Go.Proofs.YtghjemcbkackjaaDoor.faultTells
open Go.ChangeShapes Go.WideShapes Go.ChangeAt Go.RowKit Go.Joins Go.Deep
open Go.ChangeMaps (open_string shut_string)
set_option linter.unusedVariables false
set_option linter.unusedSimpArgs false
theorem own : ownKnob Tryd.prog.godebug = none := by kernel_rfl
theorem laidOut : laidOutB Tryd.prog = true := by kernel_rfl
abbrev laidL : List (String × DataW Unit) := [("math/bits.deBruijn32tab", Rows.laid_math_bits_deBruijn32tab), ("math/bits.deBruijn64tab", Rows.laid_math_bits_deBruijn64tab), ("internal/strconv.uint64pow10", Rows.laid_internal_strconv_uint64pow10)]
theorem door_met (os : Os) (args : Array Value) : laidMetH Tryd.prog laidL ((World.doorLaid Tryd.prog 72 os).forCall (fun _ _ => 0) ⟨#[], args, []⟩).memory :=
  laidMetH_of_parts3 (fuel := 8) (laidMet_of_run' 8 (by kernel_rfl) (by kernel_rfl)) (by kernel_rfl) (by kernel_rfl)
theorem laid_tab : (Rows.laid_internal_strconv_uint64pow10 : DataW Unit) = Lib.tabData .u64 Lib.pow10Tab := by rfl
theorem of_laid {W : World} (h : laidMetH Tryd.prog laidL W) : F.GW W := by
  rw [MakeChecks.laidMetH_plain _ _ _ (by kernel_rfl)] at h
  have h' := h.tail.tail
  rw [laid_tab] at h'
  exact ⟨Lib.tabIs_of_head F.globN (by kernel_rfl) Tryd.underlying114 Tryd.underlying101 (by kernel_rfl) (by kernel_rfl) h'⟩
theorem len2 {α : Type} : ∀ l : List α, l.length = 2 → ∃ z0 z1, l = [z0, z1]
  | [z0, z1], _ => ⟨z0, z1, rfl⟩
set_option maxRecDepth 100000 in
set_option maxHeartbeats 8000000 in
theorem lifted (os : Os) (started : os.Started) (H : Type) (enc : TypeId × Value → H) :
    ReturnsInHanded {} Tryd.checked os 3 .any (fun w args => (Rows.faultTellsSpec.pre enc Tryd.prog Tryd.f3 [] false w args ∧ laidMetH Tryd.prog laidL w) ∧ sizedMet enc Tryd.prog Tryd.f3 (OpenSpec.ofChange Rows.faultTellsSpec) false w args)
      (Rows.faultTellsSpec.post enc Tryd.prog Tryd.f3 false true false false) := by
  refine returnsInHanded_of_change_and (C := Tryd.checked) (X := fun w _ => laidMetH Tryd.prog laidL w) (fun _ _ _ hh h => h.of_heap hh) own started (by kernel_rfl) Tryd.func3
    (ChangeSpec.witness_shaped (enc := enc) (C := Tryd.checked) (os := os) (X := fun w _ => laidMetH Tryd.prog laidL w) false (World.doorLaid Tryd.prog 72 os) #[.agg #[.int .i64 0, .int .i64 0], .slice none 0 0] 8 rfl (World.shaped_of_RefB (by kernel_rfl) (by kernel_rfl)) (by kernel_rfl) (by kernel_rfl) (by kernel_rfl) (door_met os _)) ?_
  intro W base args ds gs before hval0 hW hcnd hsz0 hL _
  have hGW := of_laid hL
  have hsz : (DataW.weightsEach Tryd.prog (Tryd.f3.params.toList ++ Rows.faultTellsSpec.plain.varTypes Tryd.prog) (ds ++ gs)).all (· ≤ reachBytes) = true := hsz0
  have hval : ∀ (j : Nat) t v, Tryd.f3.params[j]? = some t → args[j]? = some v → Value.okWide Tryd.prog W .any base t v := hval0
  have hW' := hW
  obtain ⟨p, q, hA0, hV, rfl, hfz, hnd⟩ := hW
  have hA : DataW.TrodAll enc Tryd.prog W 0 (fun _ => true) true Tryd.f3.params.toList args.toList ds p := hA0
  rw [Tryd.params3] at hA hval hsz
  obtain ⟨v0, vs0, d0, ds0, p0, q0, hargs, rfl, rfl, h0, r0⟩ := trodAll_cons hA
  obtain ⟨v1, vs1, d1, ds1, p1, q1, rfl, rfl, rfl, h1, r1⟩ := trodAll_cons r0
  obtain ⟨rfl, rfl, rfl⟩ := trodAll_nil r1
  obtain rfl : args = #[v0, v1] := by cases args; simp_all
  obtain ⟨rfl, rfl⟩ := trodVars_none hV
  have k0 := h0
  have lt0 : ∀ x ∈ p0, x.block < W.heap.size := by obtain ⟨m, hm⟩ := k0; exact DataW.trod_lt m _ _ _ hm
  obtain ⟨cs0, rfl, hsz0⟩ := okWide_struct Tryd.underlying24 (hval 0 24 v0 rfl rfl)
  have hC0 : Tryd.prog.cellsOf 24 = 2 := by kernel_rfl
  obtain ⟨⟨l0⟩, rfl⟩ : ∃ z : Array Value, z = cs0 := ⟨_, rfl⟩
  obtain ⟨c0_0, c0_1, rfl⟩ := len2 l0 (hsz0.trans hC0)
  obtain ⟨fuel0, hf0⟩ := h0
  obtain ⟨xs0, m0, _, hx0, _, hlen0, hg0⟩ := DataW.trod_struct Tryd.underlying24 hf0
  obtain ⟨y0_0, y0_1, rfl⟩ := len2 xs0 hlen0
  have e0_0 : DataW.trod enc Tryd.prog W 0 (fun _ => true) true m0 3 [c0_0] = some y0_0 := by first | exact (by simpa [Value.cells] using hg0 0 _ rfl) | (have z := hg0 0 _ rfl; simp [Value.cells] at z; exact z)
  obtain ⟨a0_0, eqa0_0, _, wa0_0⟩ := DataW.trod_int Tryd.underlying3 e0_0
  obtain rfl : c0_0 = .int .i64 a0_0 := by simpa using eqa0_0
  have e0_1 : DataW.trod enc Tryd.prog W 0 (fun _ => true) true m0 22 [c0_1] = some y0_1 := by first | exact (by simpa [Value.cells] using hg0 1 _ rfl) | (have z := hg0 1 _ rfl; simp [Value.cells] at z; exact z)
  obtain ⟨a0_1, eqa0_1, _, wa0_1⟩ := DataW.trod_int Tryd.underlying22 e0_1
  obtain rfl : c0_1 = .int .i64 a0_1 := by simpa using eqa0_1
  have k1 := h1
  have lt1 : ∀ x ∈ p1, x.block < W.heap.size := by obtain ⟨m, hm⟩ := k1; exact DataW.trod_lt m _ _ _ hm
  obtain ⟨B1, m1, n1, rfl⟩ := okWide_slice Tryd.underlying25 (hval 1 25 v1 rfl rfl)
  obtain ⟨fuel1, hf1⟩ := h1
  have hf1' : DataW.trod enc Tryd.prog W 0 (fun _ => true) true fuel1 25 [.slice B1 m1 n1] = some (d1, p1) := hf1
  obtain ⟨A1, len1, cap1, a1, hs1, hl1, hC1, hc1, hm1, _⟩ := F.rows_of (Q.k24) (fun _ => True) Tryd.underlying25 (by kernel_rfl) (fun n c y hl hy => by
      obtain ⟨xs, m, _, hx, _, hlen, hg⟩ := DataW.trod_struct Tryd.underlying24 hy
      obtain ⟨c1_0, c1_1, rfl⟩ := len2 c (hl.trans (by kernel_rfl))
      obtain ⟨y1_0, y1_1, rfl⟩ := len2 xs hlen
      have e0 : DataW.trod enc Tryd.prog W 0 (fun _ => true) true m 3 [c1_0] = some y1_0 := by first | exact (by simpa [Value.cells] using hg 0 _ rfl) | (have z := hg 0 _ rfl; simp [Value.cells] at z; exact z)
      obtain ⟨b0, eqb0, _, _⟩ := DataW.trod_int Tryd.underlying3 e0
      obtain rfl : c1_0 = .int .i64 b0 := by simpa using eqb0
      have e1 : DataW.trod enc Tryd.prog W 0 (fun _ => true) true m 22 [c1_1] = some y1_1 := by first | exact (by simpa [Value.cells] using hg 1 _ rfl) | (have z := hg 1 _ rfl; simp [Value.cells] at z; exact z)
      obtain ⟨b1, eqb1, _, _⟩ := DataW.trod_int Tryd.underlying22 e1
      obtain rfl : c1_1 = .int .i64 b1 := by simpa using eqb1
      exact ⟨⟨b0, b1⟩, Q.k24_mk W _, trivial⟩) hf1'
  obtain ⟨rfl, rfl, rfl⟩ : B1 = A1 ∧ m1 = len1 ∧ n1 = cap1 := by simpa using hs1
  subst hl1
  have wa1 : a1.length ≤ 9223372036854775807 := Nat.le_trans hc1 hm1
  clear hA0 hval0 hsz0 hsz
  obtain ⟨k, hk⟩ := Pure.FaultTells a0_0 a0_1 a1 wa0_0 wa0_1 wa1
  refine (Q.epactlaw08_FaultTells.calls k a0_0 a0_1 B1 n1 a1 W hC1 hc1 hGW hk).mono fun e W' ⟨he, bel0⟩ => ?_
  have bel : Below W.heap.size W W' := bel0
  subst he
  exact ⟨_, rfl, _, _, _, [], _, [], hW', trodAll_mk1 (shut_bool Tryd.underlying4 _), (trodAll_cons_mk (Below.trod laidOut (by kernel_rfl) (of_decide_eq_true (by kernel_rfl)) k0 bel lt0) (trodAll_cons_mk (Below.trod laidOut (by kernel_rfl) (of_decide_eq_true (by kernel_rfl)) k1 bel lt1) trodAll_mk0)), rfl, bel.frame _, fun h => by cases h⟩
theorem over : Rows.faultTellsRow.holds Tryd.pinned (OpenSpec.ofChange Rows.faultTellsSpec) :=
  OpenClaim.holds_of_wide 3 Tryd.f3 rfl rfl rfl rfl rfl rfl rfl ⟨rfl, rfl, rfl, rfl, rfl⟩ rfl rfl rfl rfl rfl (by kernel_rfl) Tryd.func3 (by kernel_rfl)
    (of_decide_eq_true (by kernel_rfl)) (by unfold Func.isWrapper; first | (rw [if_pos (by decide +kernel)]; kernel_rfl) | (rw [if_neg (by decide +kernel)]; exact ⟨rfl, rfl⟩))
    (fun os started H enc _ => lifted os started H enc)
theorem proved : Rows.FaultTellsCardSaid :=
  Claim7.holds_tied_plain_at .later [] [.data, .data, .data] true (true, "cd56eb1721cfdbd10233006c505c409e2d830ba54e30c7dbc9299dc239ffbf07") true
    over (fun _ h => by cases h) (by kernel_rfl) (fun _ h => by cases h) faultTells_row_tie rfl ⟨rfl, rfl⟩ (by kernel_rfl) rfl
    (fun f fn hf hfn => by
      obtain rfl : f = 3 := Option.some.inj ((show Tryd.prog.funcNamed "epact/epactlaw08.FaultTells" = some 3 by kernel_rfl).symm.trans hf) |>.symm
      obtain rfl : fn = Tryd.f3 := (Option.some.inj (Tryd.func3.symm.trans hfn)).symm
      exact ⟨by kernel_rfl, fun j t ht => by
        rw [Tryd.params3] at ht
        have hm : t ∈ ([24, 25] : List Nat) := by simpa using Array.mem_of_getElem? ht
        have hall : (([24, 25] : List Nat).all fun u => !Tryd.prog.wantsStandIn u) = true := by kernel_rfl
        exact (show Tryd.prog.wantsStandIn t = false by simpa using List.all_eq_true.1 hall t hm)⟩)
    (by kernel_rfl)
#print axioms proved
end Go.Proofs.YtghjemcbkackjaaDoor.faultTells
