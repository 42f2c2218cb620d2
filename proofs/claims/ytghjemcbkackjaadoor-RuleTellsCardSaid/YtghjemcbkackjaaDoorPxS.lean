-- written by this project's program mkprint.py out of the translation; Lean checks it
import Derived.Test.YtghjemcbkackjaaDoorPx10
namespace Go.Proofs.YtghjemcbkackjaaDoor.P
open Go.Proofs.YtghjemcbkackjaaDoor.F
open Go.RowKit Go.Proofs.YtghjemcbkackjaaDoorW.PrintWords Go.Proofs.YtghjemcbkackjaaDoorW.PrintLast Go.Proofs.YtghjemcbkackjaaDoorW.PrintMore
attribute [local go_sem] max2_int min2_int max_two min_two max_three min_three max_four min_four   -- for this text's walks alone
set_option linter.unusedVariables false
set_option linter.unusedSimpArgs false

def epactlaw17_smallF.f : Option Bool := some true
theorem epactlaw17_small_val : epactlaw17_small.f 200 = some true := by kernel_rfl
theorem epactlaw17_smallF.calls (r : Bool) (w : World) (hG : GW w) (h : epactlaw17_smallF.f = some r) : Calls Tryd.prog 21 #[] w fun e w' => e = .returned (.bool r) ∧ Below w.heap.size w w' := by
  obtain rfl := Option.some.inj h
  exact epactlaw17_small.calls 200 w hG epactlaw17_small_val
end Go.Proofs.YtghjemcbkackjaaDoor.P
