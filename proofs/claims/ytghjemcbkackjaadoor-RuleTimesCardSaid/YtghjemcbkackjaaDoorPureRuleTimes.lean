/- RuleTimes over numbers and lists: the law of what rule.Clock writes and rule.Time reads. -/
import Derived.Test.YtghjemcbkackjaaDoorStRuleTimes
import Derived.Test.YtghjemcbkackjaaDoorPRule2
namespace Go.Proofs.YtghjemcbkackjaaDoor.Pure
open Go.RowKit Go.Proofs.YtghjemcbkackjaaDoorW.PrintWords Go.Proofs.YtghjemcbkackjaaDoor.F Go.Proofs.YtghjemcbkackjaaDoor.P Go.Proofs.YtghjemcbkackjaaDoor.T
set_option linter.unusedVariables false
set_option linter.unusedSimpArgs false

theorem tail_law (x5 : Bool) (hx : x5 = true) (l : List UInt8) (hl : l.length ≤ 200) (k : Nat) :
    ((rule_Time.f (k + 1) (S l)).bind fun bt434 => (if (bt434.2.1.size : Int) > ((S l).size : Int) then (some false) else (if 0 ≤ (wrap64 (((S l).size : Int) - (bt434.2.1.size : Int))) then (if (wrap64 (((S l).size : Int) - (bt434.2.1.size : Int))) ≤ ((S l).size : Int) then (if ((S l).extract ((wrap64 (((S l).size : Int) - (bt434.2.1.size : Int))) : Int).toNat (S l).size).toList = bt434.2.1.toList then (if (bt434.2.1.size : Int) < ((S l).size : Int) then (if bt434.2.2 = true then (if x5 = true then (if bt434.1 ≥ (-604799) then (if bt434.1 ≤ 604799 then (some true) else (some false)) else (some false)) else (some false)) else (some false)) else (if bt434.2.2 = true then (some false) else (if x5 = true then (if bt434.1 ≥ (-604799) then (if bt434.1 ≤ 604799 then (some (bt434.1 == 0)) else (some false)) else (some false)) else (some false)))) else (some false)) else (none)) else (none)))) = some true := by
  rw [time_eq k l (by omega)]
  simp only [Option.bind_some]
  obtain ⟨j, hj, e, hok, b1, b2, hno⟩ := time_drop l
  rw [e]
  have hs : ((S (l.drop j)).size : Int) = (l.length : Int) - (j : Int) := by rw [S_size, List.length_drop]; omega
  have e1 : wrap64 (((S l).size : Int) - ((S (l.drop j)).size : Int)) = (j : Int) := by
    rw [hs, S_size, wrap_in _ (by omega) (by omega)]; omega
  rw [if_neg (by rw [hs, S_size]; omega), e1, if_pos (by omega), if_pos (by rw [S_size]; omega), Int.toNat_natCast, S_drop, S_toList, if_pos rfl]
  cases hb : (timeL l).2.2
  · have hz := hno hb
    rw [if_neg (by rw [hs, S_size]; omega), if_neg (by decide), if_pos hx, if_pos b1, if_pos b2, hz.1]
    rfl
  · have hz := hok.1 hb
    rw [if_pos (by rw [hs, S_size]; omega), if_pos rfl, if_pos hx, if_pos b1, if_pos b2]
theorem RuleTimes : epactlaw17_RuleTimes.PureG := by
  intro a0 a1 ha0 ha1
  refine ⟨4, ?_⟩
  obtain ⟨l, rfl⟩ : ∃ l, a1 = S l := ⟨_, of_S a1⟩
  unfold epactlaw17_RuleTimes.f epactlaw17_smallF.f
  simp only [Option.bind_some]
  by_cases h200 : ((S l).size : Int) > 200
  · rw [if_pos h200]
  · rw [if_neg h200]
    have hl : l.length ≤ 200 := by rw [S_size] at h200; omega
    rw [clock_eq 3 a0 ha0]
    simp only [Option.bind_some]
    by_cases h : -604799 ≤ a0 ∧ a0 ≤ 604799
    · have hc : (clockL a0).2 = true := by unfold clockL; rw [if_pos h]
      have ht := time_clock a0 h [] (by simp)
      rw [List.append_nil] at ht
      have hlen : (clockL a0).1.length ≤ 140737488351232 := by
        unfold clockL
        rw [if_pos h]
        have l1 := digsN_len 20 (a0.natAbs / 3600)
        have l2 := pairL_len (a0.natAbs / 60 % 60)
        have l3 := pairL_len (a0.natAbs % 60)
        have : (clockB a0.natAbs).length ≤ 102 := by
          unfold clockB
          rw [List.length_append]
          split
          · rw [List.length_append]; omega
          · split
            · omega
            · simp; omega
        simp only []
        rw [List.length_append]
        split
        · simp; omega
        · simp; omega
      rw [if_pos h.1, if_pos h.2, hc]
      simp only [epactlaw17_RuleTimes.j0, if_true]
      rw [if_neg (by decide), time_eq 2 _ hlen, ht]
      simp only [Option.bind_some]
      simp only [if_true, S_toList]
      simp only [epactlaw17_RuleTimes.j1, if_true]
      rw [if_neg (by decide)]
      have T := tail_law true rfl l hl 1
      simp only [if_true] at T
      exact T
    · have hc : (clockL a0).2 = false := by unfold clockL; rw [if_neg h]
      rw [hc]
      have key : epactlaw17_RuleTimes.j0 4 a0 (S l) true (S (clockL a0).1) false false = some true := by
        simp only [epactlaw17_RuleTimes.j0, if_true]
        rw [if_neg (by decide), if_neg (by decide)]
        have T := tail_law true rfl l hl 2
        simp only [if_true] at T
        exact T
      by_cases h1 : a0 ≥ -604799
      · rw [if_pos h1]
        by_cases h2 : a0 ≤ 604799
        · exact absurd ⟨h1, h2⟩ h
        · rw [if_neg h2]
          exact key
      · rw [if_neg h1]
        exact key
end Go.Proofs.YtghjemcbkackjaaDoor.Pure
