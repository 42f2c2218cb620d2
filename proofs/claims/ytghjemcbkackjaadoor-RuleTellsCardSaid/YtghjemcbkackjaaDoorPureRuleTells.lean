/- RuleTells over numbers and lists: the program's functions and the document's own answer compute the same. -/
import Derived.Test.YtghjemcbkackjaaDoorStRuleTells
import Derived.Test.YtghjemcbkackjaaDoorPRef17e
namespace Go.Proofs.YtghjemcbkackjaaDoor.Pure
open Go.RowKit Go.Proofs.YtghjemcbkackjaaDoorW.PrintWords Go.Proofs.YtghjemcbkackjaaDoor.F Go.Proofs.YtghjemcbkackjaaDoor.P Go.Proofs.YtghjemcbkackjaaDoor.T
set_option linter.unusedVariables false
set_option linter.unusedSimpArgs false
theorem wf_bdT {x : Int} (h : (Lit.int .i64 x).wf = true) : -9223372036854775808 ≤ x ∧ x ≤ 9223372036854775807 := by
  simpa [Lit.wf, IntKind.min, IntKind.max, IntKind.bits, IntKind.signed] using h
theorem RuleTells : epactlaw17_RuleTells.PureG := by
  intro K A B C X s sec y hK hA hB hC hX hs hsec hy
  refine ⟨70, ?_⟩
  obtain ⟨l, rfl⟩ : ∃ l, s = S l := ⟨_, of_S s⟩
  unfold epactlaw17_RuleTells.f epactlaw17_smallF.f
  simp only [Option.bind_some]
  by_cases h200 : ((S l).size : Int) > 200
  · rw [if_pos h200]
  · rw [if_neg h200]
    have hl : l.length ≤ 200 := by rw [S_size] at h200; omega
    have hA' := wf_bdT hA
    rw [clock_eq 69 sec hsec, refClock_eq 70 sec (by omega), time_eq 69 l (by omega), refTime_eq 70 l (by omega), text_eq 69 K A B C X hX, refText_eq 70 K A B C X (by omega), parse_eq 68 l (by omega), refParse_eq 70 l (by omega),
      at_eq 68 K A B C X y hA', refAt_eq 70 K A B C X y (by omega), day_eq 68 K A B C X y hA', refDay_eq 70 K A B C X y (by omega), right_eq, refRight_eq 69]
    simp
end Go.Proofs.YtghjemcbkackjaaDoor.Pure
