import Derived.Test.YtghjemcbkackjaaDoorPx24
set_option linter.unusedVariables false
namespace Go.Proofs.YtghjemcbkackjaaDoor.P
open Go.Proofs.YtghjemcbkackjaaDoor.F Go.RowKit Go.Proofs.YtghjemcbkackjaaDoorW.PrintWords
/-- The law over numbers and lists alone. -/
def epactlaw17_RuleTimes.PureG : Prop := ∀ (a0 : Int) (a1 : ByteArray) (ha0 : (Lit.int .i64 a0).wf = true) (ha1 : a1.size ≤ 140737488351232), ∃ k, epactlaw17_RuleTimes.f k a0 a1 = some true
end Go.Proofs.YtghjemcbkackjaaDoor.P
