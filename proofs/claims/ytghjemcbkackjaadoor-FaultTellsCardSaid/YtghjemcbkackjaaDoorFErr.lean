/- Errors over faults: a fault's line and number in one whole number; what New, Of and Must answer. -/
import Derived.Handy
import Derived.Test.YtghjemcbkackjaaDoorFFault
import Derived.Test.YtghjemcbkackjaaDoorWMore
namespace Go.Proofs.YtghjemcbkackjaaDoor.F
open Go.RowKit Go.Proofs.YtghjemcbkackjaaDoorW.PrintWords Go.Proofs.YtghjemcbkackjaaDoorW.PrintLast
set_option linter.unusedVariables false
set_option linter.unusedSimpArgs false
def eL (x : Int) : Int := x / 18446744073709551616
def eC (x : Int) : Int := x % 18446744073709551616 - 9223372036854775808
def eMk (l c : Int) : Int := l * 18446744073709551616 + (c + 9223372036854775808)
theorem eL_mk (l c : Int) (h0 : -9223372036854775808 ≤ c) (h1 : c ≤ 9223372036854775807) : eL (eMk l c) = l := by unfold eL eMk; omega
theorem eC_mk (l c : Int) (h0 : -9223372036854775808 ≤ c) (h1 : c ≤ 9223372036854775807) : eC (eMk l c) = c := by unfold eC eMk; omega
theorem eMk_eC (x : Int) : eMk (eL x) (eC x) = x := by unfold eC eL eMk; omega
def errP : Option Int → Value
  | none => .nilIface
  | some x => .iface 67 (.agg #[.int .i64 (eL x), .int .i64 (eC x)])
theorem errP_none : errP none = .nilIface := rfl
theorem errP_some (x : Int) : errP (some x) = .iface 67 (.agg #[.int .i64 (eL x), .int .i64 (eC x)]) := rfl
set_option maxRecDepth 100000 in
set_option maxHeartbeats 2000000 in
theorem New_ok (line : Int) (w : World) :
    Calls Tryd.prog 15 #[.int .i64 line, .int .i64 0] w fun e w' => e = .returned .nilIface ∧ Below w.heap.size w w' := by
  go_enter Tryd.func15, Tryd.ntmps15
  go_wp2
  go_returns
  exact ⟨rfl, by repeat (first | exact Below.refl _ _ | apply below_alloc)⟩
set_option maxRecDepth 100000 in
set_option maxHeartbeats 2000000 in
theorem New_err (line c : Int) (hc : c ≠ 0) (w : World) :
    Calls Tryd.prog 15 #[.int .i64 line, .int .i64 c] w fun e w' => e = .returned (.iface 67 (.agg #[.int .i64 line, .int .i64 c])) ∧ Below w.heap.size w w' := by
  have h0 : decide (c = 0) = false := decide_eq_false hc
  go_enter Tryd.func15, Tryd.ntmps15
  go_wp2
  go_returns
  exact ⟨rfl, by repeat (first | exact Below.refl _ _ | apply below_alloc)⟩
def fault_New.f (line c : Int) : Option (Option Int) := if -9223372036854775808 ≤ c then (if c ≤ 9223372036854775807 then some (if c = 0 then none else some (eMk line c)) else none) else none
theorem fault_New.calls (a0 a1 : Int) (r : Option Int) (w : World) (hG : GW w) (h : fault_New.f a0 a1 = some r) :
    Calls Tryd.prog 15 #[.int .i64 a0, .int .i64 a1] w fun e w' => e = .returned (errP r) ∧ Below w.heap.size w w' := by
  unfold fault_New.f at h
  split at h
  · split at h
    · rename_i h0 h1
      by_cases hc : a1 = 0
      · subst hc
        obtain rfl := Option.some.inj h
        exact New_ok a0 w
      · rw [if_neg hc] at h
        obtain rfl := Option.some.inj h
        rw [errP_some, eL_mk _ _ h0 h1, eC_mk _ _ h0 h1]
        exact New_err a0 a1 hc w
    · cases h
  · cases h
theorem as_nil (w : World) : (Instr.typeAssert .nilIface 29 67 true).run Tryd.prog w = .ok (.tuple #[.agg #[.int .i64 0, .int .i64 0], .bool false]) w := by kernel_rfl
theorem as_ok (l c : Int) (w : World) : (Instr.typeAssert (.iface 67 (.agg #[.int .i64 l, .int .i64 c])) 29 67 true).run Tryd.prog w = .ok (.tuple #[.agg #[.int .i64 l, .int .i64 c], .bool true]) w := by kernel_rfl
theorem as_one (l c : Int) (w : World) : (Instr.typeAssert (.iface 67 (.agg #[.int .i64 l, .int .i64 c])) 29 67 false).run Tryd.prog w = .ok (.agg #[.int .i64 l, .int .i64 c]) w := by kernel_rfl
set_option maxRecDepth 100000 in
set_option maxHeartbeats 2000000 in
theorem Of_nil (w : World) :
    Calls Tryd.prog 19 #[.nilIface] w fun e w' => e = .returned (.tuple #[.agg #[.int .i64 0, .int .i64 0], .bool false]) ∧ Below w.heap.size w w' := by
  have h := fun w => as_nil w
  go_enter Tryd.func19, Tryd.ntmps19
  go_wp2
  go_returns
  exact ⟨rfl, by repeat (first | exact Below.refl _ _ | apply below_alloc)⟩
set_option maxRecDepth 100000 in
set_option maxHeartbeats 2000000 in
theorem Of_err (l c : Int) (w : World) :
    Calls Tryd.prog 19 #[.iface 67 (.agg #[.int .i64 l, .int .i64 c])] w fun e w' => e = .returned (.tuple #[.agg #[.int .i64 l, .int .i64 c], .bool true]) ∧ Below w.heap.size w w' := by
  have h := fun w => as_ok l c w
  go_enter Tryd.func19, Tryd.ntmps19
  go_wp2
  go_returns
  exact ⟨rfl, by repeat (first | exact Below.refl _ _ | apply below_alloc)⟩
def fault_Of.f : Option Int → Option (Int × Int × Bool)
  | none => some (0, 0, false)
  | some x => some (eL x, eC x, true)
theorem fault_Of.calls (a0 : Option Int) (r1 r2 : Int) (r3 : Bool) (w : World) (hG : GW w) (h : fault_Of.f a0 = some (r1, r2, r3)) :
    Calls Tryd.prog 19 #[errP a0] w fun e w' => e = .returned (.tuple #[.agg #[.int .i64 r1, .int .i64 r2], .bool r3]) ∧ Below w.heap.size w w' := by
  cases a0 with
  | none => obtain ⟨rfl, rfl, rfl⟩ : (0 : Int) = r1 ∧ (0 : Int) = r2 ∧ false = r3 := by simpa [fault_Of.f] using h
            exact Of_nil w
  | some x => obtain ⟨rfl, rfl, rfl⟩ : eL x = r1 ∧ eC x = r2 ∧ true = r3 := by simpa [fault_Of.f] using h
              exact Of_err _ _ w
set_option maxRecDepth 100000 in
set_option maxHeartbeats 2000000 in
theorem Must_err (l c : Int) (w : World) :
    Calls Tryd.prog 20 #[.iface 67 (.agg #[.int .i64 l, .int .i64 c])] w fun e w' => e = .returned (.agg #[.int .i64 l, .int .i64 c]) ∧ Below w.heap.size w w' := by
  have h := fun w => as_one l c w
  go_enter Tryd.func20, Tryd.ntmps20
  go_wp2
  go_returns
  exact ⟨rfl, by repeat (first | exact Below.refl _ _ | apply below_alloc)⟩
def fault_Must.f : Option Int → Option (Int × Int)
  | none => none
  | some x => some (eL x, eC x)
theorem fault_Must.calls (a0 : Option Int) (r1 r2 : Int) (w : World) (hG : GW w) (h : fault_Must.f a0 = some (r1, r2)) :
    Calls Tryd.prog 20 #[errP a0] w fun e w' => e = .returned (.agg #[.int .i64 r1, .int .i64 r2]) ∧ Below w.heap.size w w' := by
  cases a0 with
  | none => cases h
  | some x => obtain ⟨rfl, rfl⟩ : eL x = r1 ∧ eC x = r2 := by simpa [fault_Must.f] using h
              exact Must_err _ _ w
theorem inv_Error (l c : Int) (w : World) : (callMethod (.iface 67 (.agg #[.int .i64 l, .int .i64 c])) "Error" #[]).run Tryd.prog w = .ok (.enter 110 #[.agg #[.int .i64 l, .int .i64 c]]) w := by kernel_rfl
section
variable {ops : Array Oper} {Q : Exit → Act → World → Prop}
/-- A call of an error's method Error in a region, by its contract. -/
theorem goesI_ {oi : Oper} {N : Option Tmp} {a : Act} {w : World} {K : Act → World → Prop} (l c : Int) {recv : Operand} {ts : Array TypeId}
    (hw : Region.wanted oi (yielded ops a.tmps) = true) (hN : oi.dst = N) (hop : oi.op = .call { callee := .invoke recv "Error", args := #[], argTypes := ts }) (hr : a.eval recv = .iface 67 (.agg #[.int .i64 l, .int .i64 c]))
    (h : Calls Tryd.prog 110 #[.agg #[.int .i64 l, .int .i64 c]] w fun e w' => ∃ v, e = .returned v ∧ K (a.put N v) w') : if Region.wanted oi (yielded ops a.tmps) = true then Oper.wp Tryd.prog oi a w K Q else K (a.put N undef) w := by
  refine call_ 110 _ hw hN ?_ h
  have he := inv_Error l c w
  unfold execOp
  simp only [hop, resolve, Array.map_empty, Array.append_empty]
  simp [invoke, hr, he]
end
end Go.Proofs.YtghjemcbkackjaaDoor.F
