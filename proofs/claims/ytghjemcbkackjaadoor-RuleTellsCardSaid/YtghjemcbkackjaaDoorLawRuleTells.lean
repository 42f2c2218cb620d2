/- RuleTells: for every input the law returns true, and its arguments read as before. Conditions: the listed package-level variables hold what the program's text lays (tied by the card). -/
import Derived.Test.YtghjemcbkackjaaDoorRows
import Derived.Test.YtghjemcbkackjaaDoorCards
import Derived.Test.YtghjemcbkackjaaDoorTie
import Derived.Test.YtghjemcbkackjaaDoorStRuleTells
import Derived.Test.YtghjemcbkackjaaDoorPureRuleTells
import Derived.WalkKit
import Derived.ProofKit
import Derived.OpenShut
import Derived.ShutString
import Derived.ChangeOld
import Derived.Below
import Derived.SizedLaws
import Derived.LaidMore
import Derived.Stop.Joined
import Derived.Stop.LaidErr
import Derived.Lib.LaidTab
import Derived.SevenTiedAt
import Derived.Lib.SmallJoins
import Derived.MakeChecks
import Derived.Test.YtghjemcbkackjaaDoorV
namespace Go.Proofs.YtghjemcbkackjaaDoor.ruleTells
open Go.ChangeShapes Go.WideShapes Go.ChangeAt Go.RowKit Go.Joins Go.Deep
open Go.ChangeMaps (open_string shut_string)
set_option linter.unusedVariables false
set_option linter.unusedSimpArgs false
theorem own : ownKnob Tryd.prog.godebug = none := by kernel_rfl
theorem laidOut : laidOutB Tryd.prog = true := by kernel_rfl
abbrev laidL : List (String × DataW Unit) := [("math/bits.deBruijn32tab", Rows.laid_math_bits_deBruijn32tab), ("math/bits.deBruijn64tab", Rows.laid_math_bits_deBruijn64tab), ("internal/strconv.uint64pow10", Rows.laid_internal_strconv_uint64pow10), ("strconv.ErrRange", Rows.laid_strconv_ErrRange), ("strconv.ErrSyntax", Rows.laid_strconv_ErrSyntax)]
theorem door_met (os : Os) (args : Array Value) : laidMetH Tryd.prog laidL ((World.doorLaid Tryd.prog 72 os).forCall (fun _ _ => 0) ⟨#[], args, []⟩).memory :=
  laidMetH_of_parts3 (fuel := 8) (laidMet_of_run' 8 (by kernel_rfl) (by kernel_rfl)) (by kernel_rfl) (by kernel_rfl)
theorem laid_tab : (Rows.laid_internal_strconv_uint64pow10 : DataW Unit) = Lib.tabData .u64 Lib.pow10Tab := by rfl
theorem of_laid {W : World} (h : laidMetH Tryd.prog laidL W) : F.GW W := by
  rw [MakeChecks.laidMetH_plain _ _ _ (by kernel_rfl)] at h
  have h' := h.tail.tail
  rw [laid_tab] at h'
  exact ⟨Lib.tabIs_of_head F.globN (by kernel_rfl) Tryd.underlying114 Tryd.underlying101 (by kernel_rfl) (by kernel_rfl) h'⟩
theorem len5 {α : Type} : ∀ l : List α, l.length = 5 → ∃ z0 z1 z2 z3 z4, l = [z0, z1, z2, z3, z4]
  | [z0, z1, z2, z3, z4], _ => ⟨z0, z1, z2, z3, z4, rfl⟩
set_option maxRecDepth 100000 in
set_option maxHeartbeats 8000000 in
theorem lifted (os : Os) (started : os.Started) (H : Type) (enc : TypeId × Value → H) :
    ReturnsInHanded {} Tryd.checked os 7 .any (fun w args => (Rows.ruleTellsSpec.pre enc Tryd.prog Tryd.f7 [] false w args ∧ laidMetH Tryd.prog laidL w) ∧ sizedMet enc Tryd.prog Tryd.f7 (OpenSpec.ofChange Rows.ruleTellsSpec) false w args)
      (Rows.ruleTellsSpec.post enc Tryd.prog Tryd.f7 false true false false) := by
  refine returnsInHanded_of_change_and (C := Tryd.checked) (X := fun w _ => laidMetH Tryd.prog laidL w) (fun _ _ _ hh h => h.of_heap hh) own started (by kernel_rfl) Tryd.func7
    (ChangeSpec.witness_shaped (enc := enc) (C := Tryd.checked) (os := os) (X := fun w _ => laidMetH Tryd.prog laidL w) false (World.doorLaid Tryd.prog 72 os) #[.agg #[.int .i64 0, .int .i64 0, .int .i64 0, .int .i64 0, .int .i64 0], .string ByteArray.empty, .int .i64 0, .int .i64 0] 8 rfl (World.shaped_of_RefB (by kernel_rfl) (by kernel_rfl)) (by kernel_rfl) (by kernel_rfl) (by kernel_rfl) (door_met os _)) ?_
  intro W base args ds gs before hval0 hW hcnd hsz0 hL _
  have hGW := of_laid hL
  have hsz : (DataW.weightsEach Tryd.prog (Tryd.f7.params.toList ++ Rows.ruleTellsSpec.plain.varTypes Tryd.prog) (ds ++ gs)).all (· ≤ reachBytes) = true := hsz0
  have hval : ∀ (j : Nat) t v, Tryd.f7.params[j]? = some t → args[j]? = some v → Value.okWide Tryd.prog W .any base t v := hval0
  have hW' := hW
  obtain ⟨p, q, hA0, hV, rfl, hfz, hnd⟩ := hW
  have hA : DataW.TrodAll enc Tryd.prog W 0 (fun _ => true) true Tryd.f7.params.toList args.toList ds p := hA0
  rw [Tryd.params7] at hA hval hsz
  obtain ⟨v0, vs0, d0, ds0, p0, q0, hargs, rfl, rfl, h0, r0⟩ := trodAll_cons hA
  obtain ⟨v1, vs1, d1, ds1, p1, q1, rfl, rfl, rfl, h1, r1⟩ := trodAll_cons r0
  obtain ⟨v2, vs2, d2, ds2, p2, q2, rfl, rfl, rfl, h2, r2⟩ := trodAll_cons r1
  obtain ⟨v3, vs3, d3, ds3, p3, q3, rfl, rfl, rfl, h3, r3⟩ := trodAll_cons r2
  obtain ⟨rfl, rfl, rfl⟩ := trodAll_nil r3
  obtain rfl : args = #[v0, v1, v2, v3] := by cases args; simp_all
  obtain ⟨rfl, rfl⟩ := trodVars_none hV
  have k0 := h0
  have lt0 : ∀ x ∈ p0, x.block < W.heap.size := by obtain ⟨m, hm⟩ := k0; exact DataW.trod_lt m _ _ _ hm
  obtain ⟨cs0, rfl, hsz0⟩ := okWide_struct Tryd.underlying42 (hval 0 42 v0 rfl rfl)
  have hC0 : Tryd.prog.cellsOf 42 = 5 := by kernel_rfl
  obtain ⟨⟨l0⟩, rfl⟩ : ∃ z : Array Value, z = cs0 := ⟨_, rfl⟩
  obtain ⟨c0_0, c0_1, c0_2, c0_3, c0_4, rfl⟩ := len5 l0 (hsz0.trans hC0)
  obtain ⟨fuel0, hf0⟩ := h0
  obtain ⟨xs0, m0, _, hx0, _, hlen0, hg0⟩ := DataW.trod_struct Tryd.underlying42 hf0
  obtain ⟨y0_0, y0_1, y0_2, y0_3, y0_4, rfl⟩ := len5 xs0 hlen0
  have e0_0 : DataW.trod enc Tryd.prog W 0 (fun _ => true) true m0 3 [c0_0] = some y0_0 := by first | exact (by simpa [Value.cells] using hg0 0 _ rfl) | (have z := hg0 0 _ rfl; simp [Value.cells] at z; exact z)
  obtain ⟨a0_0, eqa0_0, _, wa0_0⟩ := DataW.trod_int Tryd.underlying3 e0_0
  obtain rfl : c0_0 = .int .i64 a0_0 := by simpa using eqa0_0
  have e0_1 : DataW.trod enc Tryd.prog W 0 (fun _ => true) true m0 3 [c0_1] = some y0_1 := by first | exact (by simpa [Value.cells] using hg0 1 _ rfl) | (have z := hg0 1 _ rfl; simp [Value.cells] at z; exact z)
  obtain ⟨a0_1, eqa0_1, _, wa0_1⟩ := DataW.trod_int Tryd.underlying3 e0_1
  obtain rfl : c0_1 = .int .i64 a0_1 := by simpa using eqa0_1
  have e0_2 : DataW.trod enc Tryd.prog W 0 (fun _ => true) true m0 3 [c0_2] = some y0_2 := by first | exact (by simpa [Value.cells] using hg0 2 _ rfl) | (have z := hg0 2 _ rfl; simp [Value.cells] at z; exact z)
  obtain ⟨a0_2, eqa0_2, _, wa0_2⟩ := DataW.trod_int Tryd.underlying3 e0_2
  obtain rfl : c0_2 = .int .i64 a0_2 := by simpa using eqa0_2
  have e0_3 : DataW.trod enc Tryd.prog W 0 (fun _ => true) true m0 3 [c0_3] = some y0_3 := by first | exact (by simpa [Value.cells] using hg0 3 _ rfl) | (have z := hg0 3 _ rfl; simp [Value.cells] at z; exact z)
  obtain ⟨a0_3, eqa0_3, _, wa0_3⟩ := DataW.trod_int Tryd.underlying3 e0_3
  obtain rfl : c0_3 = .int .i64 a0_3 := by simpa using eqa0_3
  have e0_4 : DataW.trod enc Tryd.prog W 0 (fun _ => true) true m0 3 [c0_4] = some y0_4 := by first | exact (by simpa [Value.cells] using hg0 4 _ rfl) | (have z := hg0 4 _ rfl; simp [Value.cells] at z; exact z)
  obtain ⟨a0_4, eqa0_4, _, wa0_4⟩ := DataW.trod_int Tryd.underlying3 e0_4
  obtain rfl : c0_4 = .int .i64 a0_4 := by simpa using eqa0_4
  have k1 := h1
  have lt1 : ∀ x ∈ p1, x.block < W.heap.size := by obtain ⟨m, hm⟩ := k1; exact DataW.trod_lt m _ _ _ hm
  obtain ⟨a1, rfl, rfl, rfl, y1⟩ := open_string Tryd.underlying9 (hval 1 9 v1 rfl rfl) h1
  have wa1 : a1.size ≤ 140737488351232 := by
    have z := sized_string hsz (j := 1) (t := 9) rfl rfl
    rw [Array.length_toList] at z
    exact z
  have k2 := h2
  have lt2 : ∀ x ∈ p2, x.block < W.heap.size := by obtain ⟨m, hm⟩ := k2; exact DataW.trod_lt m _ _ _ hm
  obtain ⟨a2, rfl, rfl, rfl, wa2⟩ := open_int Tryd.underlying3 (hval 2 3 v2 rfl rfl) h2
  have k3 := h3
  have lt3 : ∀ x ∈ p3, x.block < W.heap.size := by obtain ⟨m, hm⟩ := k3; exact DataW.trod_lt m _ _ _ hm
  obtain ⟨a3, rfl, rfl, rfl, wa3⟩ := open_int Tryd.underlying3 (hval 3 3 v3 rfl rfl) h3
  clear hA0 hval0 hsz0 hsz
  obtain ⟨k, hk⟩ := Pure.RuleTells a0_0 a0_1 a0_2 a0_3 a0_4 a1 a2 a3 wa0_0 wa0_1 wa0_2 wa0_3 wa0_4 wa1 wa2 wa3
  refine (P.epactlaw17_RuleTells.calls k a0_0 a0_1 a0_2 a0_3 a0_4 a1 a2 a3 W hGW hk).mono fun e W' ⟨he, bel0⟩ => ?_
  have bel : Below W.heap.size W W' := bel0
  subst he
  exact ⟨_, rfl, _, _, _, [], _, [], hW', trodAll_mk1 (shut_bool Tryd.underlying4 _), (trodAll_cons_mk (Below.trod laidOut (by kernel_rfl) (of_decide_eq_true (by kernel_rfl)) k0 bel lt0) (trodAll_cons_mk (Below.trod laidOut (by kernel_rfl) (of_decide_eq_true (by kernel_rfl)) k1 bel lt1) (trodAll_cons_mk (Below.trod laidOut (by kernel_rfl) (of_decide_eq_true (by kernel_rfl)) k2 bel lt2) (trodAll_cons_mk (Below.trod laidOut (by kernel_rfl) (of_decide_eq_true (by kernel_rfl)) k3 bel lt3) trodAll_mk0)))), rfl, bel.frame _, fun h => by cases h⟩
theorem over : Rows.ruleTellsRow.holds Tryd.pinned (OpenSpec.ofChange Rows.ruleTellsSpec) :=
  OpenClaim.holds_of_wide 7 Tryd.f7 rfl rfl rfl rfl rfl rfl rfl ⟨rfl, rfl, rfl, rfl, rfl⟩ rfl rfl rfl rfl rfl (by kernel_rfl) Tryd.func7 (by kernel_rfl)
    (of_decide_eq_true (by kernel_rfl)) (by unfold Func.isWrapper; first | (rw [if_pos (by decide +kernel)]; kernel_rfl) | (rw [if_neg (by decide +kernel)]; exact ⟨rfl, rfl⟩))
    (fun os started H enc _ => lifted os started H enc)
theorem proved : Rows.RuleTellsCardSaid :=
  Claim7.holds_tied_plain_at .later [] [.data, .data, .data, .sentinel, .sentinel] true (true, "cd56eb1721cfdbd10233006c505c409e2d830ba54e30c7dbc9299dc239ffbf07") true
    over (fun _ h => by cases h) (by kernel_rfl) (fun _ h => by cases h) ruleTells_row_tie rfl ⟨rfl, rfl⟩ (by kernel_rfl) rfl
    (fun f fn hf hfn => by
      obtain rfl : f = 7 := Option.some.inj ((show Tryd.prog.funcNamed "epact/epactlaw17.RuleTells" = some 7 by kernel_rfl).symm.trans hf) |>.symm
      obtain rfl : fn = Tryd.f7 := (Option.some.inj (Tryd.func7.symm.trans hfn)).symm
      exact ⟨by kernel_rfl, fun j t ht => by
        rw [Tryd.params7] at ht
        have hm : t ∈ ([42, 9, 3, 3] : List Nat) := by simpa using Array.mem_of_getElem? ht
        have hall : (([42, 9, 3, 3] : List Nat).all fun u => !Tryd.prog.wantsStandIn u) = true := by kernel_rfl
        exact (show Tryd.prog.wantsStandIn t = false by simpa using List.all_eq_true.1 hall t hm)⟩)
    (by kernel_rfl)
#print axioms proved
end Go.Proofs.YtghjemcbkackjaaDoor.ruleTells
