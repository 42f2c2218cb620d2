import Derived.Test.YtghjemcbkackjaaDoorPx22
set_option linter.unusedVariables false
namespace Go.Proofs.YtghjemcbkackjaaDoor.P
open Go.Proofs.YtghjemcbkackjaaDoor.F Go.RowKit Go.Proofs.YtghjemcbkackjaaDoorW.PrintWords
/-- The law over numbers and lists alone. -/
def epactlaw17_RuleTells.PureG : Prop := ∀ (a0_0 : Int) (a0_1 : Int) (a0_2 : Int) (a0_3 : Int) (a0_4 : Int) (a1 : ByteArray) (a2 : Int) (a3 : Int) (ha0_0 : (Lit.int .i64 a0_0).wf = true) (ha0_1 : (Lit.int .i64 a0_1).wf = true) (ha0_2 : (Lit.int .i64 a0_2).wf = true) (ha0_3 : (Lit.int .i64 a0_3).wf = true) (ha0_4 : (Lit.int .i64 a0_4).wf = true) (ha1 : a1.size ≤ 140737488351232) (ha2 : (Lit.int .i64 a2).wf = true) (ha3 : (Lit.int .i64 a3).wf = true), ∃ k, epactlaw17_RuleTells.f k a0_0 a0_1 a0_2 a0_3 a0_4 a1 a2 a3 = some true
end Go.Proofs.YtghjemcbkackjaaDoor.P
