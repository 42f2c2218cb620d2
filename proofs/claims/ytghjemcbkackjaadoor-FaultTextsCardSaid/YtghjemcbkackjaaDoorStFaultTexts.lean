import Derived.Test.YtghjemcbkackjaaDoorPe9
set_option linter.unusedVariables false
namespace Go.Proofs.YtghjemcbkackjaaDoor.Q
open Go.Proofs.YtghjemcbkackjaaDoor.F Go.RowKit Go.Proofs.YtghjemcbkackjaaDoorW.PrintWords
/-- The law over numbers and lists alone. -/
def epactlaw08_FaultTexts.PureG : Prop := ∀ (a0_0 : Int) (a0_1 : Int) (a1_0 : Int) (a1_1 : Int) (ha0_0 : (Lit.int .i64 a0_0).wf = true) (ha0_1 : (Lit.int .i64 a0_1).wf = true) (ha1_0 : (Lit.int .i64 a1_0).wf = true) (ha1_1 : (Lit.int .i64 a1_1).wf = true), ∃ k, epactlaw08_FaultTexts.f k a0_0 a0_1 a1_0 a1_1 = some true
end Go.Proofs.YtghjemcbkackjaaDoor.Q
