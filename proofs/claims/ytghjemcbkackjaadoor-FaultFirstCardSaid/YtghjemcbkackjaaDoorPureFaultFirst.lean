/- FaultFirst over lists: the first fault is one of them, none is ahead, and those that are OK do not count. -/
import Derived.Test.YtghjemcbkackjaaDoorStFaultFirst
import Derived.Test.YtghjemcbkackjaaDoorPFault
namespace Go.Proofs.YtghjemcbkackjaaDoor.Pure
open Go.RowKit Go.Proofs.YtghjemcbkackjaaDoorW.PrintWords Go.Proofs.YtghjemcbkackjaaDoor.F Go.Proofs.YtghjemcbkackjaaDoor.Q Go.Proofs.YtghjemcbkackjaaDoor.T
set_option linter.unusedVariables false
set_option linter.unusedSimpArgs false
theorem ff_loop (xs : List S24) (hn : xs.length ≤ 200) : ∀ (d i k : Nat) (had : Bool), i + d = xs.length → 2 * d + xs.length + 3 ≤ k → (had = true ↔ firstF xs ⟨0, 0⟩ ∈ xs.take i) →
    epactlaw08_FaultFirst.l0 k xs true had ((xs.take i).filter fun x => x.f1 != 0) (i : Int) (firstF xs ⟨0, 0⟩).f0 (firstF xs ⟨0, 0⟩).f1 = some true
  | 0, i, k, had, hi, hk, hh => by
    obtain ⟨k, rfl⟩ : ∃ j, k = j + 1 := ⟨k - 1, by omega⟩
    have ht : xs.take i = xs := List.take_of_length_le (by omega)
    rw [ht] at hh ⊢
    have hf : (xs.filter fun x => x.f1 != 0).length ≤ xs.length := List.length_filter_le _ _
    have hF := first_eq (xs.filter fun x => x.f1 != 0) k (by omega) (by omega)
    rw [first_filter] at hF
    simp only [epactlaw08_FaultFirst.l0, if_true]
    rw [if_neg (by omega), hF]
    simp only [Option.bind_some]
    have hself : ((firstF xs ⟨0, 0⟩).f0 == (firstF xs ⟨0, 0⟩).f0 && ((firstF xs ⟨0, 0⟩).f1 == (firstF xs ⟨0, 0⟩).f1)) = true := by simp
    rw [hself]
    obtain ⟨s1, _, s3⟩ := first_spec xs ⟨0, 0⟩
    by_cases h0 : ((xs.filter fun x => x.f1 != 0).length : Int) = 0
    · rw [if_pos h0]
      have hnil : (xs.filter fun x => x.f1 != 0) = [] := List.eq_nil_of_length_eq_zero (by omega)
      have e : firstF xs ⟨0, 0⟩ = ⟨0, 0⟩ := by rw [← first_filter xs ⟨0, 0⟩, hnil]; rfl
      rw [e]; rfl
    · rw [if_neg h0]
      have hne : (xs.filter fun x => x.f1 != 0) ≠ [] := fun h => h0 (by rw [h]; rfl)
      obtain ⟨y, hy⟩ := List.exists_mem_of_ne_nil _ hne
      have hy' := List.mem_filter.1 hy
      have h1 := (s3 y hy'.1 (by simpa using hy'.2)).1
      have hm : firstF xs ⟨0, 0⟩ ∈ xs := by
        rcases s1 with h | h
        · rw [h] at h1; exact absurd rfl h1
        · exact h.1
      rw [if_pos (hh.2 hm), if_neg h1]
  | d + 1, i, k, had, hi, hk, hh => by
    obtain ⟨k, rfl⟩ : ∃ j, k = j + 2 := ⟨k - 2, by omega⟩
    have hlt : i < xs.length := by omega
    obtain ⟨s1, _, s3⟩ := first_spec xs ⟨0, 0⟩
    have htake : xs.take (i + 1) = xs.take i ++ [xs[i]] := (List.take_append_getElem hlt).symm
    have e1 : wrap64 ((i : Int) + 1) = ((i + 1 : Nat) : Int) := by rw [wrap_in _ (by omega) (by omega)]; omega
    have step : ∀ had', (had' = true ↔ firstF xs ⟨0, 0⟩ ∈ xs.take (i + 1)) → epactlaw08_FaultFirst.j1 (k + 1) xs true had' ((xs.take i).filter fun x => x.f1 != 0) (i : Int) (firstF xs ⟨0, 0⟩).f0 (firstF xs ⟨0, 0⟩).f1 = some true := by
      intro had' hh'
      have ih := ff_loop xs hn d (i + 1) k had' (by omega) (by omega) hh'
      rw [htake, List.filter_append] at ih
      have hfl : ((xs.take i).filter fun x => x.f1 != 0).length ≤ xs.length := Nat.le_trans (List.length_filter_le _ _) (by rw [List.length_take]; omega)
      simp only [epactlaw08_FaultFirst.j1]
      rw [if_pos (by omega), if_pos (by omega), rd_at xs i hlt, e1]
      by_cases h1 : xs[i].f1 = 0
      · rw [if_pos h1]
        rw [show ([xs[i]].filter fun x => x.f1 != 0) = [] from by simp [h1], List.append_nil] at ih
        exact ih
      · rw [if_neg h1, if_pos (by omega)]
        have := s3 xs[i] (List.getElem_mem hlt) h1
        rw [if_neg (by omega), if_neg this.1]
        rw [show ([xs[i]].filter fun x => x.f1 != 0) = [xs[i]] from by simp [h1]] at ih
        exact ih
    simp only [epactlaw08_FaultFirst.l0]
    rw [if_pos (by omega)]
    by_cases hb : had = true
    · rw [if_pos hb]
      exact step true ⟨fun _ => by rw [htake]; exact List.mem_append_left _ (hh.1 hb), fun _ => rfl⟩
    · rw [if_neg hb, if_pos (by omega), rd_at xs i hlt]
      refine step _ ?_
      have hno : firstF xs ⟨0, 0⟩ ∉ xs.take i := fun h => hb (hh.2 h)
      rw [htake, List.mem_append, List.mem_singleton]
      constructor
      · intro h
        simp only [Bool.and_eq_true, beq_iff_eq] at h
        right
        cases hx : xs[i] with
        | mk p q =>
          cases hy : firstF xs ⟨0, 0⟩ with
          | mk u v => rw [hx, hy] at h; simp only at h; rw [h.1, h.2]
      · rintro (h | h)
        · exact absurd h hno
        · rw [← h]; simp
theorem FaultFirst : epactlaw08_FaultFirst.PureG := by
  intro xs hxs
  refine ⟨3 * xs.length + 5, ?_⟩
  unfold epactlaw08_FaultFirst.f epactlaw08_smallF.f
  simp only [Option.bind_some]
  by_cases h : (xs.length : Int) > 200
  · rw [if_pos h]
  · rw [if_neg h, first_eq xs _ (by omega) (by omega)]
    simp only [Option.bind_some]
    have := ff_loop xs (by omega) xs.length 0 (3 * xs.length + 5) false (by omega) (by omega) (by simp)
    simpa using this
end Go.Proofs.YtghjemcbkackjaaDoor.Pure
