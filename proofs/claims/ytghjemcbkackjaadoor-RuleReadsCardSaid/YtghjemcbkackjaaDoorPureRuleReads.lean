/- RuleReads over numbers and lists: what is read is right, and may be written, and what is behind it is an end of the text. -/
import Derived.Test.YtghjemcbkackjaaDoorStRuleReads
import Derived.Test.YtghjemcbkackjaaDoorPRule4
import Derived.WalkArith
namespace Go.Proofs.YtghjemcbkackjaaDoor.Pure
open Go.RowKit Go.Proofs.YtghjemcbkackjaaDoorW.PrintWords Go.Proofs.YtghjemcbkackjaaDoor.F Go.Proofs.YtghjemcbkackjaaDoor.P Go.Proofs.YtghjemcbkackjaaDoor.T
set_option linter.unusedVariables false
set_option linter.unusedSimpArgs false
theorem RuleReads : epactlaw17_RuleReads.PureG := by
  intro a0 ha0
  refine ⟨4, ?_⟩
  obtain ⟨l, rfl⟩ : ∃ l, a0 = S l := ⟨_, of_S a0⟩
  unfold epactlaw17_RuleReads.f epactlaw17_smallF.f
  simp only [Option.bind_some]
  by_cases h200 : ((S l).size : Int) > 200
  · rw [if_pos h200]
  · rw [if_neg h200]
    have hl : l.length ≤ 200 := by rw [S_size] at h200; omega
    rw [parse_eq 2 l (by omega)]
    simp only [Option.bind_some]
    cases hok : (parseL l).2.2.2.2.2.2
    · rw [if_neg (by decide), if_pos trivial, parse_bad l hok, if_pos rfl]
      rfl
    · obtain ⟨hR, j, hj, hjl, e⟩ := parse_good l hok
      have hr := (right_iff _ _ _ _ _).1 hR
      rw [if_pos rfl, e]
      have hs : ((S (l.drop j)).size : Int) = (l.length : Int) - (j : Int) := by rw [S_size, List.length_drop]; omega
      have e1 : wrap64 (((S l).size : Int) - ((S (l.drop j)).size : Int)) = (j : Int) := by
        rw [hs, S_size, wrap_in _ (by omega) (by omega)]; omega
      rw [if_neg (by rw [hs, S_size]; omega), e1, if_pos (by omega), if_pos (by rw [S_size]; omega), Int.toNat_natCast, S_drop]
      simp only [epactlaw17_RuleReads.j0]
      have ht : (textL (parseL l).1 (parseL l).2.1 (parseL l).2.2.1 (parseL l).2.2.2.1 (parseL l).2.2.2.2.1).2 = true := by unfold textL; rw [if_pos hR]
      have hlen := textL_len (parseL l).1 (parseL l).2.1 (parseL l).2.2.1 (parseL l).2.2.2.1 (parseL l).2.2.2.2.1
      have hp := parse_text _ _ _ _ _ hR [] (by simp)
      rw [List.append_nil] at hp
      rw [if_neg (by simp), text_eq 2 _ _ _ _ _ (Go.WalkArith.wf_i64 (by omega))]
      simp only [Option.bind_some]
      rw [parse_eq 1 _ (by omega)]
      simp only [Option.bind_some]
      rw [if_pos trivial, right_eq]
      simp only [Option.bind_some]
      rw [if_pos hR, ht, if_pos rfl, hp]
      simp
end Go.Proofs.YtghjemcbkackjaaDoor.Pure
