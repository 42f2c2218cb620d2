import Derived.Test.YtghjemcbkackjaaDoorPx23
set_option linter.unusedVariables false
namespace Go.Proofs.YtghjemcbkackjaaDoor.P
open Go.Proofs.YtghjemcbkackjaaDoor.F Go.RowKit Go.Proofs.YtghjemcbkackjaaDoorW.PrintWords
/-- The law over numbers and lists alone. -/
def epactlaw17_RuleBack.PureG : Prop := ∀ (a0_0 : Int) (a0_1 : Int) (a0_2 : Int) (a0_3 : Int) (a0_4 : Int) (a1 : Int) (ha0_0 : (Lit.int .i64 a0_0).wf = true) (ha0_1 : (Lit.int .i64 a0_1).wf = true) (ha0_2 : (Lit.int .i64 a0_2).wf = true) (ha0_3 : (Lit.int .i64 a0_3).wf = true) (ha0_4 : (Lit.int .i64 a0_4).wf = true) (ha1 : (Lit.int .u8 a1).wf = true), ∃ k, epactlaw17_RuleBack.f k a0_0 a0_1 a0_2 a0_3 a0_4 a1 = some true
end Go.Proofs.YtghjemcbkackjaaDoor.P
