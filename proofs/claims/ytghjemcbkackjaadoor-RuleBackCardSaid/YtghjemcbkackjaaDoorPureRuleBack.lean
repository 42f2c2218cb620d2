/- RuleBack over numbers and lists: what was written is read as it was, whatever follows but digits, points, colons and strokes. -/
import Derived.Test.YtghjemcbkackjaaDoorStRuleBack
import Derived.Test.YtghjemcbkackjaaDoorPRule4
import Derived.WalkArith
namespace Go.Proofs.YtghjemcbkackjaaDoor.Pure
open Go.RowKit Go.Proofs.YtghjemcbkackjaaDoorW.PrintWords Go.Proofs.YtghjemcbkackjaaDoor.F Go.Proofs.YtghjemcbkackjaaDoor.P Go.Proofs.YtghjemcbkackjaaDoor.T
set_option linter.unusedVariables false
set_option linter.unusedSimpArgs false
theorem behind_ok (c : UInt8) (h : c.toNat < 46 ∨ 58 < c.toNat) : ∀ x, [c].head? = some x → isDig x = false ∧ x ≠ 58 ∧ x ≠ 47 := by
  intro x hx
  simp at hx
  subst hx
  refine ⟨?_, ?_, ?_⟩
  · unfold isDig
    simp
    omega
  · rintro rfl; simp at h
  · rintro rfl; simp at h
theorem RuleBack : epactlaw17_RuleBack.PureG := by
  intro K A B C X c hK hA hB hC hX hc
  refine ⟨5, ?_⟩
  unfold epactlaw17_RuleBack.f epactlaw17_smallF.f
  simp only [Option.bind_some]
  rw [text_eq 4 _ _ _ _ _ hX, right_eq]
  simp only [Option.bind_some]
  by_cases hR : rightR K A B C X = true
  · have ht : (textL K A B C X).2 = true := by unfold textL; rw [if_pos hR]
    have hlen := textL_len K A B C X
    have hp := parse_text K A B C X hR [] (by simp)
    rw [List.append_nil] at hp
    have hc' : 0 ≤ c ∧ c ≤ 255 := by simpa [Lit.wf, IntKind.min, IntKind.max, IntKind.bits, IntKind.signed] using hc
    rw [ht, hR, if_neg (by decide), if_pos rfl]
    have body : ∀ k, ((rule_Parse.f (k + 2) (S (textL K A B C X).1 ++ strOfNums [c])).bind fun bt406 => (if bt406.2.2.2.2.2.2 = true then (if (bt406.1 == K && (bt406.2.1 == A && (bt406.2.2.1 == B && (bt406.2.2.2.1 == C && (bt406.2.2.2.2.1 == X))))) = true then (some (bt406.2.2.2.2.2.1.toList == (strOfNums [c]).toList)) else (some false)) else (some false))) = some true ∨ (46 ≤ c ∧ c ≤ 58) := by
      intro k
      by_cases h46 : 46 ≤ c ∧ c ≤ 58
      · exact Or.inr h46
      · left
        have hu : (UInt8.ofNat c.toNat).toNat = c.toNat := by rw [UInt8.toNat_ofNat']; omega
        have e : strOfNums [c] = S [UInt8.ofNat c.toNat] := rfl
        rw [e, S_append, parse_eq k _ (by simp; omega), parse_text K A B C X hR _ (behind_ok _ (by rw [hu]; omega))]
        simp
    simp only [epactlaw17_RuleBack.j0]
    rw [if_neg (by decide), if_pos trivial, parse_eq 2 _ (by omega), hp]
    simp only [Option.bind_some]
    rw [if_pos trivial, if_neg (by simp)]
    rw [show ((S ([] : List UInt8)).toList != ([] : List UInt8)) = false from by rw [S_toList]; rfl]
    simp only [epactlaw17_RuleBack.j1]
    rw [if_neg (by decide)]
    have hsz : (S (textL K A B C X).1).size + (strOfNums [c]).size ≤ 9223372036854775807 := by rw [S_size, strOfNums_size]; simp; omega
    by_cases h1 : c ≥ 46
    · rw [if_pos h1]
      by_cases h2 : c ≤ 58
      · rw [if_pos h2]
      · rw [if_neg h2]
        simp only [Option.bind_some]
        rw [if_pos hsz]
        rcases body 1 with h | h
        · simpa using h
        · omega
    · rw [if_neg h1]
      simp only [Option.bind_some]
      rw [if_pos hsz]
      rcases body 1 with h | h
      · simpa using h
      · omega
  · have hR' : rightR K A B C X = false := by simpa using hR
    have ht : textL K A B C X = ([], false) := by unfold textL; rw [if_neg hR]
    rw [ht, hR', if_neg (by decide), if_neg (by decide)]
    rw [show ((S ([] : List UInt8)).toList != ([] : List UInt8)) = false from by rw [S_toList]; rfl]
    simp only [epactlaw17_RuleBack.j0]
    rw [if_neg (by decide), if_neg (by decide)]
end Go.Proofs.YtghjemcbkackjaaDoor.Pure
