/- What the fault chapter's printed functions compute. -/
import Derived.Test.YtghjemcbkackjaaDoorPS
import Derived.Test.YtghjemcbkackjaaDoorFErr
import Derived.Test.YtghjemcbkackjaaDoorPe2
namespace Go.Proofs.YtghjemcbkackjaaDoor.T
open Go.RowKit Go.Proofs.YtghjemcbkackjaaDoorW.PrintWords Go.Proofs.YtghjemcbkackjaaDoor.F Go.Proofs.YtghjemcbkackjaaDoor.Q
set_option linter.unusedVariables false
set_option linter.unusedSimpArgs false
theorem wfb {x : Int} (h : (Lit.int .i64 x).wf = true) : -9223372036854775808 ≤ x ∧ x ≤ 9223372036854775807 := by
  simpa [Lit.wf, IntKind.min, IntKind.max, IntKind.bits, IntKind.signed] using h
/-- A fault's text. -/
def wordL (c : Int) : List UInt8 := (wordF c).data.toList
def textL8 (l c : Int) : List UInt8 := [108, 105, 110, 101, 32] ++ (itoaK l ++ (58 :: 32 :: wordL c))
theorem word_S (c : Int) : wordF c = S (wordL c) := of_S _
theorem word_len (c : Int) : (wordL c).length ≤ 20 := by
  unfold wordL wordF
  by_cases h1 : c = 1
  · rw [if_pos h1]; decide
  rw [if_neg h1]
  by_cases h2 : c = 2
  · rw [if_pos h2]; decide
  rw [if_neg h2]
  by_cases h3 : c = 3
  · rw [if_pos h3]; decide
  rw [if_neg h3]
  by_cases h4 : c = 4
  · rw [if_pos h4]; decide
  rw [if_neg h4]
  by_cases h5 : c = 5
  · rw [if_pos h5]; decide
  rw [if_neg h5]
  by_cases h6 : c = 6
  · rw [if_pos h6]; decide
  rw [if_neg h6]
  by_cases h7 : c = 7
  · rw [if_pos h7]; decide
  rw [if_neg h7]
  by_cases h8 : c = 8
  · rw [if_pos h8]; decide
  rw [if_neg h8]
  by_cases h9 : c = 9
  · rw [if_pos h9]; decide
  rw [if_neg h9]
  by_cases h10 : c = 10
  · rw [if_pos h10]; decide
  rw [if_neg h10]
  by_cases h11 : c = 11
  · rw [if_pos h11]; decide
  rw [if_neg h11]
  decide
theorem digsN_le : ∀ k u, (digsN k u).length ≤ k
  | 0, _ => by simp [digsN]
  | k + 1, u => by
    rw [digsN]
    split
    · simp
    · have := digsN_le k (u / 10); simp; omega
theorem itoaK_le (n : Int) : (itoaK n).length ≤ 21 := by
  unfold itoaK
  split
  · have := digsN_le 20 n.natAbs; simp; omega
  · have := digsN_le 20 n.toNat; omega
theorem textF_eq (l c : Int) (hl : (Lit.int .i64 l).wf = true) : fault_Text.f l c = some (S (textL8 l c)) := by
  have hb := wfb hl
  have h1 := itoaK_le l
  have h2 := word_len c
  unfold fault_Text.f strconv_Itoa.f fault_word.f
  rw [if_pos hb.1, if_pos hb.2]
  simp only [Option.bind_some]
  rw [word_S]
  have e1 : (⟨(itoaK l).toArray⟩ : ByteArray).size = (itoaK l).length := S_size _
  rw [e1, S_size, if_pos (by omega), if_pos (by omega), if_pos (by omega)]
  rw [show (⟨#[108, 105, 110, 101, 32]⟩ : ByteArray) = S [108, 105, 110, 101, 32] from rfl, show (⟨#[58, 32]⟩ : ByteArray) = S [58, 32] from rfl]
  rw [S_append, S_append, S_append]
  unfold textL8
  simp
theorem error_eq (l c : Int) (hl : (Lit.int .i64 l).wf = true) : fault_wrong_Error.f l c = some (S (textL8 l c)) := by
  unfold fault_wrong_Error.f
  rw [textF_eq l c hl]; rfl
theorem new_eq (l c : Int) (hc : (Lit.int .i64 c).wf = true) : fault_New.f l c = some (if c = 0 then none else some (eMk l c)) := by
  have hb := wfb hc
  unfold fault_New.f
  rw [if_pos hb.1, if_pos hb.2]

/-! ### The first fault -/
def stepF (o x : S24) : S24 := if x.f1 = 0 then o else if o.f1 = 0 then x else if x.f0 < o.f0 then x else o
def firstF (l : List S24) (o : S24) : S24 := l.foldl stepF o
theorem rd_at (xs : List S24) (i : Nat) (h : i < xs.length) : rd_T24 xs (i : Int) = xs[i] := by
  unfold rd_T24
  rw [Int.toNat_natCast, List.getD_eq_getElem?_getD, List.getElem?_eq_getElem h]; rfl
theorem firstR_eq (xs : List S24) (hx : xs.length ≤ 9223372036854775806) : ∀ (d i k : Nat) (o : S24), i + d = xs.length → d + 1 ≤ k → fault_First.l0 k xs (xs.length : Int) (i : Int) o.f0 o.f1 = some ((firstF (xs.drop i) o).f0, (firstF (xs.drop i) o).f1)
  | 0, i, k, o, hi, hk => by
    obtain ⟨k, rfl⟩ : ∃ j, k = j + 1 := ⟨k - 1, by omega⟩
    simp only [fault_First.l0]
    rw [if_neg (by omega), List.drop_eq_nil_of_le (by omega)]
    rfl
  | d + 1, i, k, o, hi, hk => by
    obtain ⟨k, rfl⟩ : ∃ j, k = j + 1 := ⟨k - 1, by omega⟩
    have hlt : i < xs.length := by omega
    simp only [fault_First.l0]
    rw [if_pos (by omega), if_pos (by omega), if_pos (by omega), rd_at xs i hlt, List.drop_eq_getElem_cons hlt]
    have e1 : wrap64 ((i : Int) + 1) = ((i + 1 : Nat) : Int) := by rw [wrap_in _ (by omega) (by omega)]; omega
    rw [e1]
    have ih := fun o' => firstR_eq xs hx d (i + 1) k o' (by omega) (by omega)
    have e2 : firstF (xs[i] :: xs.drop (i + 1)) o = firstF (xs.drop (i + 1)) (stepF o xs[i]) := rfl
    rw [e2]
    unfold stepF
    by_cases h1 : xs[i].f1 = 0
    · rw [if_pos h1, if_pos h1]; exact ih o
    · rw [if_neg h1, if_neg h1]
      by_cases h2 : o.f1 = 0
      · rw [if_pos h2, if_pos h2]; exact ih xs[i]
      · rw [if_neg h2, if_neg h2]
        by_cases h3 : xs[i].f0 < o.f0
        · rw [if_pos h3, if_pos h3]; exact ih xs[i]
        · rw [if_neg h3, if_neg h3]; exact ih o
theorem first_eq (xs : List S24) (k : Nat) (hk : xs.length + 1 ≤ k) (hx : xs.length ≤ 9223372036854775806) : fault_First.f k xs = some ((firstF xs ⟨0, 0⟩).f0, (firstF xs ⟨0, 0⟩).f1) := by
  unfold fault_First.f
  exact firstR_eq xs hx xs.length 0 k ⟨0, 0⟩ (by omega) (by omega)
/-- What the first fault is. -/
theorem first_spec : ∀ (l : List S24) (o : S24),
    (firstF l o = o ∨ (firstF l o ∈ l ∧ (firstF l o).f1 ≠ 0)) ∧ (o.f1 ≠ 0 → (firstF l o).f1 ≠ 0 ∧ (firstF l o).f0 ≤ o.f0) ∧ (∀ x ∈ l, x.f1 ≠ 0 → (firstF l o).f1 ≠ 0 ∧ (firstF l o).f0 ≤ x.f0)
  | [], o => ⟨Or.inl rfl, fun h => ⟨h, Int.le_refl _⟩, by simp⟩
  | x :: l, o => by
    obtain ⟨a, b, c⟩ := first_spec l (stepF o x)
    have e : firstF (x :: l) o = firstF l (stepF o x) := rfl
    rw [e]
    have hs : stepF o x = o ∨ (stepF o x = x ∧ x.f1 ≠ 0) := by
      unfold stepF
      by_cases h1 : x.f1 = 0
      · rw [if_pos h1]; exact Or.inl rfl
      · rw [if_neg h1]
        split
        · exact Or.inr ⟨rfl, h1⟩
        · split
          · exact Or.inr ⟨rfl, h1⟩
          · exact Or.inl rfl
    have ho : o.f1 ≠ 0 → (stepF o x).f1 ≠ 0 ∧ (stepF o x).f0 ≤ o.f0 := by
      intro h
      unfold stepF
      by_cases h1 : x.f1 = 0
      · rw [if_pos h1]; exact ⟨h, Int.le_refl _⟩
      · rw [if_neg h1, if_neg h]
        split
        · exact ⟨h1, by omega⟩
        · exact ⟨h, Int.le_refl _⟩
    have hx : x.f1 ≠ 0 → (stepF o x).f1 ≠ 0 ∧ (stepF o x).f0 ≤ x.f0 := by
      intro h
      unfold stepF
      rw [if_neg h]
      split
      · exact ⟨h, Int.le_refl _⟩
      · split
        · exact ⟨h, Int.le_refl _⟩
        · rename_i h2 h3; exact ⟨h2, by omega⟩
    refine ⟨?_, ?_, ?_⟩
    · rcases a with a | ⟨a1, a2⟩
      · rcases hs with hs | ⟨hs, h1⟩
        · exact Or.inl (a.trans hs)
        · right; rw [a, hs]; exact ⟨List.mem_cons_self, h1⟩
      · exact Or.inr ⟨List.mem_cons_of_mem _ a1, a2⟩
    · intro h
      have h' := ho h
      have := b h'.1
      exact ⟨this.1, by omega⟩
    · intro y hy h
      rcases List.mem_cons.1 hy with rfl | hy
      · have h' := hx h
        have := b h'.1
        exact ⟨this.1, by omega⟩
      · exact c y hy h
theorem first_filter : ∀ (l : List S24) (o : S24), firstF (l.filter fun x => x.f1 != 0) o = firstF l o
  | [], _ => rfl
  | x :: l, o => by
    have e : firstF (x :: l) o = firstF l (stepF o x) := rfl
    rw [e, List.filter_cons]
    by_cases h : x.f1 = 0
    · rw [if_neg (by simp [h]), first_filter l o]
      congr 1
      unfold stepF; rw [if_pos h]
    · rw [if_pos (by simp [h])]
      have e2 : firstF (x :: l.filter fun x => x.f1 != 0) o = firstF (l.filter fun x => x.f1 != 0) (stepF o x) := rfl
      rw [e2, first_filter l _]
end Go.Proofs.YtghjemcbkackjaaDoor.T
