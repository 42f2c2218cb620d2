import Derived.Test.YtghjemcbkackjaaDoorPe8
set_option linter.unusedVariables false
namespace Go.Proofs.YtghjemcbkackjaaDoor.Q
open Go.Proofs.YtghjemcbkackjaaDoor.F Go.RowKit Go.Proofs.YtghjemcbkackjaaDoorW.PrintWords
/-- The law over numbers and lists alone. -/
def epactlaw08_FaultFirst.PureG : Prop := ∀ (a0 : List S24) (ha0 : a0.length ≤ 9223372036854775807), ∃ k, epactlaw08_FaultFirst.f k a0 = some true
end Go.Proofs.YtghjemcbkackjaaDoor.Q
