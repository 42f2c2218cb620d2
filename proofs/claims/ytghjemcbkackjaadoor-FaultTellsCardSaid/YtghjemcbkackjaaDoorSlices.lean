/- A slice that came in, opened as a row of its elements' kind. -/
import Derived.Test.YtghjemcbkackjaaDoorWWords
import Derived.ChangeArms
import Derived.DataReads
namespace Go.Proofs.YtghjemcbkackjaaDoor.F
open Go.RowKit Go.Proofs.YtghjemcbkackjaaDoorW.PrintWords
set_option linter.unusedVariables false
theorem rows_of {P : Program} {W : World} {H : Type} {enc : TypeId × Value → H} {sp : Nat → Bool} {held : Bool} {t e : TypeId} {fuel : Nat} {v : Value} {r : DataW H × List MemPlace} {α : Type} (d : Kd α) (good : α → Prop)
    (ht : P.underlying t = some (.slice e)) (hsz : P.cellsOf e = d.sz)
    (hel : ∀ n c y, c.length = P.cellsOf e → DataW.trod enc P W 0 sp held n e c = some y → ∃ x : α, d.K W x c ∧ good x)
    (h : DataW.trod enc P W 0 sp held fuel t [v] = some r) : ∃ a len cap, ∃ xs : List α, v = .slice a len cap ∧ xs.length = len ∧ d.C W a len xs ∧ len ≤ cap ∧ cap ≤ 9223372036854775807 ∧ ∀ x ∈ xs, good x := by
  rcases DataW.trod_slice ht h with ⟨hcs, _⟩ | ⟨a, len, cap, elems, rest, n, _, hcs, _, _, hl, hm, hlen, hE, _⟩
  · simp at hcs
    subst hcs
    exact ⟨none, 0, 0, [], rfl, rfl, ⟨rfl, by omega, fun h => absurd h (by omega)⟩, by omega, by omega, by simp⟩
  · simp at hcs
    subst hcs
    have key : ∀ m, m ≤ len → ∃ xs : List α, xs.length = m ∧ (∀ x ∈ xs, good x) ∧ ∀ j x, xs[j]? = some x → ∃ c, c.length = d.sz ∧ d.K W x c ∧ ∀ i u, c[i]? = some u → W.cell? (a.add (j * d.sz + i)) = some u := by
      intro m
      induction m with
      | zero => exact fun _ => ⟨[], rfl, by simp, fun j x h => by simp at h⟩
      | succ m ih =>
        intro hm'
        obtain ⟨xs, hx, hg, hr⟩ := ih (by omega)
        have h1 := hE m (by omega)
        rw [List.getElem?_eq_getElem (by omega), Option.bind_eq_some_iff] at h1
        obtain ⟨c, hc, hy⟩ := h1
        have hcl : c.length = P.cellsOf e ∧ ∀ i u, c[i]? = some u → W.cell? ((a.add (m * P.cellsOf e)).add i) = some u := by
          have hs := World.cells?_some hc
          obtain ⟨h1, h2, h3⟩ := hs
          refine ⟨h2, fun i u hu => ?_⟩
          have hi : i < P.cellsOf e := by rw [← h2]; exact (List.getElem?_eq_some_iff.1 hu).1
          rw [← hu]; exact h3 i hi
        obtain ⟨x, hK, hgx⟩ := hel n c _ hcl.1 hy
        refine ⟨xs ++ [x], by simp [hx], fun y hy => ?_, fun j y hj => ?_⟩
        · rcases List.mem_append.1 hy with hy | hy
          · exact hg y hy
          · simp at hy; subst hy; exact hgx
        · by_cases hjm : j < m
          · rw [List.getElem?_append_left (by omega)] at hj
            exact hr j y hj
          · have hjl : j < (xs ++ [x]).length := (List.getElem?_eq_some_iff.1 hj).1
            have hjm2 : j = m := by rw [List.length_append, hx] at hjl; simp at hjl; omega
            subst hjm2
            have hj2 : (xs ++ [x])[j]? = some x := by rw [← hx]; exact List.getElem?_concat_length
            obtain rfl : x = y := Option.some.inj (hj2.symm.trans hj)
            refine ⟨c, by rw [hcl.1, hsz], hK, fun i u hu => ?_⟩
            have := hcl.2 i u hu
            rw [hsz] at this
            have e1 : (a.add (j * d.sz)).add i = a.add (j * d.sz + i) := add_add a _ _
            rw [← e1]; exact this
    obtain ⟨xs, hx, hg, hr⟩ := key len (Nat.le_refl _)
    have hm2 : cap ≤ 9223372036854775807 := by simpa [maxLen] using hm
    have hl2 : len ≤ 9223372036854775807 := Nat.le_trans hl hm2
    exact ⟨some a, len, cap, xs, rfl, hx, ⟨hx, hl2, fun _ => ⟨a, rfl, hr⟩⟩, hl, hm2, hg⟩
end Go.Proofs.YtghjemcbkackjaaDoor.F
