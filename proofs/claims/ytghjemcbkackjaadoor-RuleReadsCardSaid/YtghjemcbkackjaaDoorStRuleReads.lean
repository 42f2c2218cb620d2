import Derived.Test.YtghjemcbkackjaaDoorPx25
set_option linter.unusedVariables false
namespace Go.Proofs.YtghjemcbkackjaaDoor.P
open Go.Proofs.YtghjemcbkackjaaDoor.F Go.RowKit Go.Proofs.YtghjemcbkackjaaDoorW.PrintWords
/-- The law over numbers and lists alone. -/
def epactlaw17_RuleReads.PureG : Prop := ∀ (a0 : ByteArray) (ha0 : a0.size ≤ 140737488351232), ∃ k, epactlaw17_RuleReads.f k a0 = some true
end Go.Proofs.YtghjemcbkackjaaDoor.P
