/- FaultBack over numbers: what was made is what is told, asked or taken. -/
import Derived.Test.YtghjemcbkackjaaDoorStFaultBack
import Derived.Test.YtghjemcbkackjaaDoorPFault
namespace Go.Proofs.YtghjemcbkackjaaDoor.Pure
open Go.RowKit Go.Proofs.YtghjemcbkackjaaDoorW.PrintWords Go.Proofs.YtghjemcbkackjaaDoor.F Go.Proofs.YtghjemcbkackjaaDoor.Q Go.Proofs.YtghjemcbkackjaaDoor.T
set_option linter.unusedVariables false
set_option linter.unusedSimpArgs false
theorem FaultBack : epactlaw08_FaultBack.PureG := by
  intro l c hl hc
  unfold epactlaw08_FaultBack.f epactlaw08_smallF.f
  simp only [Option.bind_some]
  rw [new_eq l c hc]
  simp only [Option.bind_some]
  have hb := wfb hc
  by_cases h : c = 0
  · subst h
    rfl
  · simp [h, fault_Of.f, fault_Must.f, eL_mk l c hb.1 hb.2, eC_mk l c hb.1 hb.2, error_eq l c hl, textF_eq l c hl]
end Go.Proofs.YtghjemcbkackjaaDoor.Pure
