/- FaultTexts over numbers: faults of unlike lines, or unlike known errors, have unlike texts. -/
import Derived.Test.YtghjemcbkackjaaDoorStFaultTexts
import Derived.Test.YtghjemcbkackjaaDoorPFault
namespace Go.Proofs.YtghjemcbkackjaaDoor.Pure
open Go.RowKit Go.Proofs.YtghjemcbkackjaaDoorW.PrintWords Go.Proofs.YtghjemcbkackjaaDoor.F Go.Proofs.YtghjemcbkackjaaDoor.Q Go.Proofs.YtghjemcbkackjaaDoor.T
set_option linter.unusedVariables false
set_option linter.unusedSimpArgs false
theorem split58 : ∀ (a b r s : List UInt8), (∀ c ∈ a, c ≠ 58) → (∀ c ∈ b, c ≠ 58) → a ++ 58 :: r = b ++ 58 :: s → a = b ∧ r = s
  | [], [], r, s, _, _, h => by simpa using h
  | [], y :: b, r, s, _, hb, h => by
    simp only [List.nil_append, List.cons_append, List.cons.injEq] at h
    exact absurd h.1.symm (hb y (by simp))
  | x :: a, [], r, s, ha, _, h => by
    simp only [List.nil_append, List.cons_append, List.cons.injEq] at h
    exact absurd h.1 (ha x (by simp))
  | x :: a, y :: b, r, s, ha, hb, h => by
    simp only [List.cons_append, List.cons.injEq] at h
    obtain ⟨e1, e2⟩ := split58 a b r s (fun c hc => ha c (by simp [hc])) (fun c hc => hb c (by simp [hc])) h.2
    exact ⟨by rw [h.1, e1], e2⟩
theorem digs_dig : ∀ k u, ∀ c ∈ digsN k u, 48 ≤ c.toNat ∧ c.toNat ≤ 57
  | 0, _ => by simp [digsN]
  | k + 1, u => by
    rw [digsN]
    split
    · intro c hc
      rw [List.mem_singleton] at hc
      subst hc
      rw [UInt8.toNat_ofNat']; omega
    · intro c hc
      rcases List.mem_append.1 hc with hc | hc
      · exact digs_dig k (u / 10) c hc
      · rw [List.mem_singleton] at hc
        subst hc
        rw [UInt8.toNat_ofNat']; omega
theorem valL_snoc (a : List UInt8) (c : UInt8) : valL (a ++ [c]) = 10 * valL a + (c.toNat - 48) := by simp [valL, List.foldl_append]
theorem valL_digs : ∀ k u, u < 10 ^ k → valL (digsN k u) = u
  | 0, u, h => by simp at h; subst h; rfl
  | k + 1, u, h => by
    rw [digsN]
    split
    · simp only [valL, List.foldl_cons, List.foldl_nil]
      rw [UInt8.toNat_ofNat']; omega
    · rw [valL_snoc, valL_digs k (u / 10) (by rw [Nat.pow_succ] at h; omega), UInt8.toNat_ofNat']; omega
theorem itoa_no58 (n : Int) : ∀ c ∈ itoaK n, c ≠ 58 := by
  intro c hc
  unfold itoaK at hc
  split at hc
  · rcases List.mem_cons.1 hc with rfl | hc
    · decide
    · have := digs_dig _ _ c hc
      rintro rfl; simp at this
  · have := digs_dig _ _ c hc
    rintro rfl; simp at this
theorem itoa_inj (a b : Int) (ha : -9223372036854775808 ≤ a ∧ a ≤ 9223372036854775807) (hb : -9223372036854775808 ≤ b ∧ b ≤ 9223372036854775807) (h : itoaK a = itoaK b) : a = b := by
  unfold itoaK at h
  have no45 : ∀ k u (r : List UInt8), digsN k u ≠ 45 :: r := by
    intro k u r e
    have := digs_dig k u 45 (by rw [e]; simp)
    simp at this
  by_cases h1 : a < 0
  · rw [if_pos h1] at h
    by_cases h2 : b < 0
    · rw [if_pos h2] at h
      have e := congrArg valL (List.cons.inj h).2
      rw [valL_digs 20 _ (by omega), valL_digs 20 _ (by omega)] at e
      omega
    · rw [if_neg h2] at h
      exact absurd h.symm (no45 _ _ _)
  · rw [if_neg h1] at h
    by_cases h2 : b < 0
    · rw [if_pos h2] at h
      exact absurd h (no45 _ _ _)
    · rw [if_neg h2] at h
      have e := congrArg valL h
      rw [valL_digs 20 _ (by omega), valL_digs 20 _ (by omega)] at e
      omega
theorem words_inj : ∀ a, a < 12 → ∀ b, b < 12 → 1 ≤ a → 1 ≤ b → wordL (a : Nat) = wordL (b : Nat) → a = b := by decide +kernel
theorem text_inj (l c m d : Int) (hl : (Lit.int .i64 l).wf = true) (hm : (Lit.int .i64 m).wf = true) (h1 : 1 ≤ c) (h2 : c ≤ 11) (h3 : 1 ≤ d) (h4 : d ≤ 11) (h : textL8 l c = textL8 m d) : l = m ∧ c = d := by
  unfold textL8 at h
  obtain ⟨e1, e2⟩ := split58 _ _ _ _ (itoa_no58 l) (itoa_no58 m) (List.append_cancel_left h)
  refine ⟨itoa_inj l m (wfb hl) (wfb hm) e1, ?_⟩
  have e3 := (List.cons.inj e2).2
  obtain ⟨x, rfl⟩ : ∃ x : Nat, c = (x : Int) := ⟨c.toNat, by omega⟩
  obtain ⟨y, rfl⟩ : ∃ x : Nat, d = (x : Int) := ⟨d.toNat, by omega⟩
  rw [words_inj x (by omega) y (by omega) (by omega) (by omega) e3]
theorem FaultTexts : epactlaw08_FaultTexts.PureG := by
  intro l c m d hl hc hm hd
  refine ⟨1, ?_⟩
  unfold epactlaw08_FaultTexts.f epactlaw08_smallF.f
  simp only [Option.bind_some, epactlaw08_FaultTexts.j0, if_true]
  by_cases h1 : c < 1
  · rw [if_pos h1]
  rw [if_neg h1]
  by_cases h2 : c > 11
  · rw [if_pos h2]
  rw [if_neg h2]
  by_cases h3 : d < 1
  · rw [if_pos h3]
  rw [if_neg h3]
  by_cases h4 : d > 11
  · rw [if_pos (by simpa using h4)]
  rw [if_neg (by simpa using h4), textF_eq l c hl, textF_eq m d hm]
  simp only [Option.bind_some, S_toList]
  by_cases e : textL8 l c = textL8 m d
  · obtain ⟨rfl, rfl⟩ := text_inj l c m d hl hm (by omega) (by omega) (by omega) (by omega) e
    rw [if_pos rfl]; simp
  · rw [if_neg e]
    have : ¬ (l = m ∧ c = d) := fun h => e (by rw [h.1, h.2])
    simp only [Option.some.injEq, Bool.not_eq_true', Bool.and_eq_false_iff, beq_eq_false_iff_ne, ne_eq]
    by_cases hx : l = m
    · right; exact fun hy => this ⟨hx, hy⟩
    · left; exact hx
end Go.Proofs.YtghjemcbkackjaaDoor.Pure
