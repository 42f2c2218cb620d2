import Derived.Test.YtghjemcbkackjaaDoorPe6
set_option linter.unusedVariables false
namespace Go.Proofs.YtghjemcbkackjaaDoor.Q
open Go.Proofs.YtghjemcbkackjaaDoor.F Go.RowKit Go.Proofs.YtghjemcbkackjaaDoorW.PrintWords
/-- The law over numbers and lists alone. -/
def epactlaw08_FaultTells.PureG : Prop := ∀ (a0_0 : Int) (a0_1 : Int) (a1 : List S24) (ha0_0 : (Lit.int .i64 a0_0).wf = true) (ha0_1 : (Lit.int .i64 a0_1).wf = true) (ha1 : a1.length ≤ 9223372036854775807), ∃ k, epactlaw08_FaultTells.f k a0_0 a0_1 a1 = some true
end Go.Proofs.YtghjemcbkackjaaDoor.Q
