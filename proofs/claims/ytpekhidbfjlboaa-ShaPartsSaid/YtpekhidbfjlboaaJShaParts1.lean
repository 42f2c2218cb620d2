/- What the functions come to in plain data, with proofs, and what that answers. -/
import Derived.Test.YtpekhidbfjlboaaJShaParts0
import Derived.KernelRfl
section
set_option linter.unusedVariables false
set_option linter.unusedSimpArgs false
namespace Go.Proofs.Ytpekhidbfjlboaa
open Go Go.Proofs.Ytpekhidbfjlboaa.Eng Go.Proofs.Ytpekhidbfjlboaa.Pl
set_option linter.unusedVariables false
set_option linter.unusedSimpArgs false
set_option maxRecDepth 100000
set_option maxHeartbeats 1000000

def abcS : List UInt8 := [97, 57, 57, 57, 51, 101, 51, 54, 52, 55, 48, 54, 56, 49, 54, 97, 98, 97, 51, 101, 50, 53, 55, 49, 55, 56, 53, 48, 99, 50, 54, 99, 57, 99, 100, 48, 100, 56, 57, 100]
def noS : List UInt8 := [100, 97, 51, 57, 97, 51, 101, 101, 53, 101, 54, 98, 52, 98, 48, 100, 51, 50, 53, 53, 98, 102, 101, 102, 57, 53, 54, 48, 49, 56, 57, 48, 97, 102, 100, 56, 48, 55, 48, 57]
theorem small_abc : (hexN (digest [97, 98, 99]) 20 == abcS && wi (wordsOf (digest [97, 98, 99]) 0) == 2845392438 && wi (wordsOf (digest [97, 98, 99]) 4) == 2630932637) = true := by kernel_rfl
theorem small_no : (hexN (digest []) 20 == noS) = true := by kernel_rfl
theorem eqS (l a : List UInt8) (h : l = a) : (ByteArray.toList (S l) == ByteArray.toList (ByteArray.mk a.toArray)) = true := by
  subst h; exact beq_self_eq_true _
theorem parts0 : Parts [] [] := ⟨rfl, fun i h => absurd h (Nat.not_lt_zero i)⟩
theorem partsC {v : List V} {ps : List (List UInt8)} (h : Parts v ps) (es : Nat) (fl : Bool) (l : List UInt8) (he : es = 1 ∨ l = []) : Parts (.sl es fl (BV l) :: v) (l :: ps) := by
  refine ⟨by simp [h.1], fun i hi => ?_⟩
  cases i with
  | zero => exact ⟨es, fl, rfl, he⟩
  | succ i => exact h.2 i (by simpa using hi)
theorem sSmall {K : Bool → Prop} (h : K true) : Xepactlaw06_small K := by
  unfold Xepactlaw06_small Yepactlaw06_small
  have fa := small_abc
  have fn := small_no
  simp only [Bool.and_eq_true, beq_iff_eq, abcS, noS] at fa fn
  refine sSum _ [[97, 98, 99]] (partsC parts0 1 false [97, 98, 99] (.inl rfl)) (by decide) (by decide) ?_
  refine sSum _ [] parts0 (by decide) (by decide) ?_
  refine sSum _ [[97], [], [98, 99]] (partsC (partsC (partsC parts0 1 false [98, 99] (.inl rfl)) 0 true [] (.inr rfl)) 1 false [97] (.inl rfl)) (by decide) (by decide) ?_
  rw [show ([[97], [], [98, 99]] : List (List UInt8)).flatten = [97, 98, 99] from rfl, show ([[97, 98, 99]] : List (List UInt8)).flatten = [97, 98, 99] from rfl, show ([] : List (List UInt8)).flatten = [] from rfl]
  generalize digest [97, 98, 99] = d at *
  generalize digest [] = e at *
  refine sWords d ?_
  refine sHex d ?_
  simp only [lt]
  rw [if_pos (eqS _ _ fa.1.1)]
  refine sHex e ?_
  rw [if_pos (eqS _ _ fn)]
  simp only [beq_self_eq_true, Bool.and_true, if_true, fa.1.2, fa.2]
  exact h
end Go.Proofs.Ytpekhidbfjlboaa
end
section
set_option linter.unusedVariables false
set_option linter.unusedSimpArgs false
namespace Go.Proofs.Ytpekhidbfjlboaa
open Go Go.Proofs.Ytpekhidbfjlboaa.Eng Go.Proofs.Ytpekhidbfjlboaa.Pl
set_option linter.unusedVariables false
set_option linter.unusedSimpArgs false
set_option maxRecDepth 100000
set_option maxHeartbeats 2000000

theorem word4 (a b c d : UInt8) : (word [a, b, c, d] 0).toNat = a.toNat * 16777216 + b.toNat * 65536 + c.toNat * 256 + d.toNat := by
  have ha := bi_lt a; have hb := bi_lt b; have hc := bi_lt c; have hd := bi_lt d
  have or_add : ∀ (x : W32) (c : UInt8), x.toNat < 16777216 → (x <<< 8 ||| BitVec.ofNat 32 c.toNat).toNat = x.toNat * 256 + c.toNat := by
    intro x c hx
    have hc := bi_lt c
    rw [BitVec.toNat_or, BitVec.toNat_shiftLeft, BitVec.toNat_ofNat, Nat.mod_eq_of_lt (show c.toNat < 2 ^ 32 by omega)]
    rw [Nat.shiftLeft_eq, Nat.mod_eq_of_lt (show x.toNat * 2 ^ 8 < 2 ^ 32 by omega)]
    rw [Nat.mul_comm, ← Nat.two_pow_add_eq_or_of_lt (by omega)]
  simp only [word, List.foldl_cons, List.foldl_nil]
  have h0 : ((0 : W32) <<< 8 ||| BitVec.ofNat 32 a.toNat).toNat = a.toNat := by
    rw [or_add _ _ (by decide)]; simp
  have h1 := or_add ((0 : W32) <<< 8 ||| BitVec.ofNat 32 a.toNat) b (by omega)
  rw [h0] at h1
  have h2 := or_add _ c (show (((0 : W32) <<< 8 ||| BitVec.ofNat 32 a.toNat) <<< 8 ||| BitVec.ofNat 32 b.toNat).toNat < 16777216 by omega)
  rw [h1] at h2
  have h3 := or_add _ d (show ((((0 : W32) <<< 8 ||| BitVec.ofNat 32 a.toNat) <<< 8 ||| BitVec.ofNat 32 b.toNat) <<< 8 ||| BitVec.ofNat 32 c.toNat).toNat < 16777216 by omega)
  rw [h2] at h3
  rw [h3]; omega
theorem byteOfWord (d : Nat → UInt8) (i : Nat) : UInt8.ofNat ((wordsOf d (i / 4)).toNat / 2 ^ (24 - 8 * (i % 4))) = d i := by
  unfold wordsOf
  rw [word4]
  have h0 := bi_lt (d (4 * (i / 4))); have h1 := bi_lt (d (4 * (i / 4) + 1)); have h2 := bi_lt (d (4 * (i / 4) + 2)); have h3 := bi_lt (d (4 * (i / 4) + 3))
  apply UInt8.toNat_inj.1
  rw [UInt8.toNat_ofNat']
  have hm : i % 4 = 0 ∨ i % 4 = 1 ∨ i % 4 = 2 ∨ i % 4 = 3 := by omega
  rcases hm with hm | hm | hm | hm
  · rw [hm, show i = 4 * (i / 4) by omega]
    rw [show 4 * (i / 4) / 4 = i / 4 by omega]
    simp only [show (2 ^ (24 - 8 * 0) : Nat) = 16777216 from rfl, show (2 ^ 8 : Nat) = 256 from rfl]
    omega
  · rw [hm]
    have e : d i = d (4 * (i / 4) + 1) := by congr 1; omega
    rw [e]
    simp only [show (2 ^ (24 - 8 * 1) : Nat) = 65536 from rfl, show (2 ^ 8 : Nat) = 256 from rfl]
    omega
  · rw [hm]
    have e : d i = d (4 * (i / 4) + 2) := by congr 1; omega
    rw [e]
    simp only [show (2 ^ (24 - 8 * 2) : Nat) = 256 from rfl, show (2 ^ 8 : Nat) = 256 from rfl]
    omega
  · rw [hm]
    have e : d i = d (4 * (i / 4) + 3) := by congr 1; omega
    rw [e]
    simp only [show (2 ^ (24 - 8 * 3) : Nat) = 1 from rfl, show (2 ^ 8 : Nat) = 256 from rfl]
    omega
theorem words_inj (d e : Nat → UInt8) (h : ∀ j, j < 5 → wordsOf d j = wordsOf e j) : ∀ i, i < 20 → d i = e i := fun i hi => by
  rw [← byteOfWord d i, ← byteOfWord e i, h _ (by omega)]
theorem words_congr (d e : Nat → UInt8) (h : ∀ i, i < 20 → d i = e i) : ∀ j, j < 5 → wordsOf d j = wordsOf e j := fun j hj => by
  unfold wordsOf
  rw [h _ (by omega), h _ (by omega), h _ (by omega), h _ (by omega)]
theorem hexC_inj : ∀ a b : Fin 16, hexC a.val = hexC b.val → a = b := by decide
theorem hexN_snoc (d : Nat → UInt8) (n : Nat) : hexN d (n + 1) = hexN d n ++ [hexC ((d n).toNat / 16), hexC ((d n).toNat % 16)] := rfl
theorem hexN_inj (d e : Nat → UInt8) : ∀ n, hexN d n = hexN e n → ∀ i, i < n → d i = e i := by
  intro n
  induction n with
  | zero => intro _ i hi; omega
  | succ n ih =>
    intro h i hi
    rw [hexN_snoc, hexN_snoc] at h
    obtain ⟨h1, h2⟩ := List.append_inj h (by rw [hexN_len, hexN_len])
    by_cases e' : i = n
    · subst e'
      simp only [List.cons.injEq, and_true] at h2
      have hd := bi_lt (d i); have he := bi_lt (e i)
      have a1 := hexC_inj ⟨(d i).toNat / 16, by omega⟩ ⟨(e i).toNat / 16, by omega⟩ h2.1
      have a2 := hexC_inj ⟨(d i).toNat % 16, by omega⟩ ⟨(e i).toNat % 16, by omega⟩ h2.2
      simp only [Fin.mk.injEq] at a1 a2
      apply UInt8.toNat_inj.1
      omega
    · exact ih h1 i (by omega)
theorem hexN_congr (d e : Nat → UInt8) : ∀ n, (∀ i, i < n → d i = e i) → hexN d n = hexN e n := by
  intro n
  induction n with
  | zero => intro _; rfl
  | succ n ih => intro h; rw [hexN_snoc, hexN_snoc, ih fun i hi => h i (by omega), h n (by omega)]
theorem hexC_ok : ∀ a : Fin 16, (48 ≤ (hexC a.val).toNat ∧ (hexC a.val).toNat ≤ 57) ∨ (97 ≤ (hexC a.val).toNat ∧ (hexC a.val).toNat ≤ 102) := by decide
theorem hexN_ok (d : Nat → UInt8) : ∀ n, ∀ c ∈ hexN d n, (48 ≤ c.toNat ∧ c.toNat ≤ 57) ∨ (97 ≤ c.toNat ∧ c.toNat ≤ 102) := by
  intro n
  induction n with
  | zero => intro c hc; cases hc
  | succ n ih =>
    intro c hc
    rw [hexN_snoc] at hc
    have hd := bi_lt (d n)
    rcases List.mem_append.1 hc with hc | hc
    · exact ih c hc
    · simp only [List.mem_cons, List.not_mem_nil, or_false] at hc
      rcases hc with rfl | rfl
      · exact hexC_ok ⟨(d n).toNat / 16, by omega⟩
      · exact hexC_ok ⟨(d n).toNat % 16, by omega⟩
end Go.Proofs.Ytpekhidbfjlboaa
end
section
set_option linter.unusedVariables false
set_option linter.unusedSimpArgs false
namespace Go.Proofs.Ytpekhidbfjlboaa
open Go Go.Proofs.Ytpekhidbfjlboaa.Eng Go.Proofs.Ytpekhidbfjlboaa.Pl
set_option linter.unusedVariables false
set_option linter.unusedSimpArgs false
set_option maxRecDepth 100000
set_option maxHeartbeats 2000000

theorem row5 (w : Nat → W32) : [Eng.V.agg [V.c (.int .u32 (wi (w 0))), V.c (.int .u32 (wi (w 1))), V.c (.int .u32 (wi (w 2))), V.c (.int .u32 (wi (w 3))), V.c (.int .u32 (wi (w 4)))]] = agL .u32 5 (fun j => wi (w j)) := by kernel_rfl
theorem hex_at0 (d : Nat → UInt8) : (hexN d 20).getD 0 0 = hexC ((d 0).toNat / 16) := by
  have : ∀ n, (hexN d (n + 1)).getD 0 0 = hexC ((d 0).toNat / 16) := by
    intro n
    induction n with
    | zero => rfl
    | succ n ih =>
      rw [hexN_snoc, List.getD_eq_getElem?_getD, List.getElem?_append_left (by rw [hexN_len]; omega), ← List.getD_eq_getElem?_getD]
      exact ih
  exact this 19
theorem hexC0 : ∀ a : Fin 16, (decide (0 < a.val)) = ((((hexC a.val).toNat : Nat) : Int) != 48) := by decide
theorem lShaWords (d : Nat → UInt8) : Xepactlaw06_ShaWords (t20 d) (fun b => b = true) := by
  unfold Xepactlaw06_ShaWords Yepactlaw06_ShaWords
  refine sSmall ?_
  refine sWords d ?_
  refine sHex d ?_
  rw [row5 (wordsOf d), zeros20]
  refine lp_at (fun j => (((), false, true, (), S (hexN d 20), (), (j : Int), ()), t20 d, agL .u32 5 (fun j => wi (wordsOf d j)), agL .u8 20 (part d j), ())) 20 rfl fun n hn k hk => ?_
  unfold Lepactlaw06_ShaWords_0
  simp only [decide_eq_true_eq]
  by_cases e : n = 20
  · subst e
    rw [if_neg (by omega), if_pos trivial]
    rw [asIe 0 rfl, asIe 1 rfl, asIe 2 rfl, asIe 3 rfl, asIe 4 rfl, asIe 5 rfl, asIe 6 rfl, asIe 7 rfl, asIe 8 rfl, asIe 9 rfl, asIe 10 rfl, asIe 11 rfl, asIe 12 rfl, asIe 13 rfl, asIe 14 rfl, asIe 15 rfl, asIe 16 rfl, asIe 17 rfl, asIe 18 rfl, asIe 19 rfl]
    simp only [lt, part, Nat.reduceLT, if_true, beq_self_eq_true, Bool.and_true]
    rw [if_pos (show (((S (hexN d 20)).size : Int) == 40) = true by rw [S_size, hexN_len]; rfl), if_pos (by rw [S_size, hexN_len]; omega)]
    rw [bAt_S, hex_at0]
    have h := bi_lt (d 0)
    have := hexC0 ⟨(d 0).toNat / 16, by omega⟩
    rw [← this]
    simp only [beq_iff_eq, decide_eq_decide]
    unfold bi
    omega
  · have hn' : n < 20 := by omega
    have hk' := hk hn'
    rw [← part_next] at hk'
    have e4 : w64 (Int.tdiv (n : Int) 4) = ((n / 4 : Nat) : Int) := by
      rw [Int.tdiv_eq_ediv_of_nonneg (by omega), w64_in (by omega) (by omega)]; omega
    have e5 : w64 (24 - w64 (8 * Int.tmod (n : Int) 4)) = ((24 - 8 * (n % 4) : Nat) : Int) := by
      rw [Int.tmod_eq_emod_of_nonneg (by omega), w64_in (n := 8 * ((n : Int) % 4)) (by omega) (by omega), w64_in (by omega) (by omega)]; omega
    have e1 : w64 ((n : Int) + 1) = ((n + 1 : Nat) : Int) := by rw [w64_in (by omega) (by omega)]; omega
    rw [e4, e5, e1]
    simp only [Int.toNat_natCast, Nat.mul_one, Nat.zero_add, lt]
    rw [if_pos (by omega), if_pos (by omega)]
    refine asI (by omega) ?_
    rw [if_neg (by omega), if_pos (by omega), if_pos (show (0 : Nat) < List.length (agL .u8 20 (part d n)) from Nat.zero_lt_one), if_pos (by show n + 1 ≤ 20; omega)]
    rw [show min (24 - 8 * (n % 4)) 32 = 24 - 8 * (n % 4) by omega]
    have e8 := wu8_shr (wordsOf d (n / 4)).toNat (24 - 8 * (n % 4)) (Nat.lt_trans (wi_lt _) (by omega))
    rw [show Int.fdiv (wi (wordsOf d (n / 4))) (2 ^ (24 - 8 * (n % 4))) = Int.fdiv ((wordsOf d (n / 4)).toNat : Int) (2 ^ (24 - 8 * (n % 4))) from rfl, e8, byteOfWord, agL_set (by omega)]
    exact hk'
def same20 (d e : Nat → UInt8) : Bool := bi (d 0) == bi (e 0) && (bi (d 1) == bi (e 1) && (bi (d 2) == bi (e 2) && (bi (d 3) == bi (e 3) && (bi (d 4) == bi (e 4) && (bi (d 5) == bi (e 5) && (bi (d 6) == bi (e 6) && (bi (d 7) == bi (e 7) && (bi (d 8) == bi (e 8) && (bi (d 9) == bi (e 9) && (bi (d 10) == bi (e 10) && (bi (d 11) == bi (e 11) && (bi (d 12) == bi (e 12) && (bi (d 13) == bi (e 13) && (bi (d 14) == bi (e 14) && (bi (d 15) == bi (e 15) && (bi (d 16) == bi (e 16) && (bi (d 17) == bi (e 17) && (bi (d 18) == bi (e 18) && (bi (d 19) == bi (e 19) && true)))))))))))))))))))
theorem bi_beq (a b : UInt8) : (bi a == bi b) = (a == b) := by
  rw [Bool.eq_iff_iff, beq_iff_eq, beq_iff_eq]
  constructor
  · intro h; apply UInt8.toNat_inj.1; unfold bi at h; omega
  · intro h; rw [h]
theorem wi_beq (a b : W32) : (wi a == wi b) = (a == b) := by
  rw [Bool.eq_iff_iff, beq_iff_eq, beq_iff_eq]
  constructor
  · intro h; apply BitVec.eq_of_toNat_eq; unfold wi at h; omega
  · intro h; rw [h]
theorem same20_iff (d e : Nat → UInt8) : same20 d e = true ↔ ∀ i, i < 20 → d i = e i := by
  unfold same20
  simp only [bi_beq, Bool.and_eq_true, beq_iff_eq, Bool.and_true]
  constructor
  · intro h i hi
    obtain ⟨h0, h1, h2, h3, h4, h5, h6, h7, h8, h9, h10, h11, h12, h13, h14, h15, h16, h17, h18, h19⟩ := h
    have q : i = 0 ∨ i = 1 ∨ i = 2 ∨ i = 3 ∨ i = 4 ∨ i = 5 ∨ i = 6 ∨ i = 7 ∨ i = 8 ∨ i = 9 ∨ i = 10 ∨ i = 11 ∨ i = 12 ∨ i = 13 ∨ i = 14 ∨ i = 15 ∨ i = 16 ∨ i = 17 ∨ i = 18 ∨ i = 19 := by omega
    rcases q with rfl | rfl | rfl | rfl | rfl | rfl | rfl | rfl | rfl | rfl | rfl | rfl | rfl | rfl | rfl | rfl | rfl | rfl | rfl | rfl
    · exact h0
    · exact h1
    · exact h2
    · exact h3
    · exact h4
    · exact h5
    · exact h6
    · exact h7
    · exact h8
    · exact h9
    · exact h10
    · exact h11
    · exact h12
    · exact h13
    · exact h14
    · exact h15
    · exact h16
    · exact h17
    · exact h18
    · exact h19
  · intro h
    exact ⟨h 0 (by decide), h 1 (by decide), h 2 (by decide), h 3 (by decide), h 4 (by decide), h 5 (by decide), h 6 (by decide), h 7 (by decide), h 8 (by decide), h 9 (by decide), h 10 (by decide), h 11 (by decide), h 12 (by decide), h 13 (by decide), h 14 (by decide), h 15 (by decide), h 16 (by decide), h 17 (by decide), h 18 (by decide), h 19 (by decide)⟩
def same5 (w v : Nat → W32) : Bool := wi (w 0) == wi (v 0) && (wi (w 1) == wi (v 1) && (wi (w 2) == wi (v 2) && (wi (w 3) == wi (v 3) && (wi (w 4) == wi (v 4) && true))))
theorem same5_iff (w v : Nat → W32) : same5 w v = true ↔ ∀ i, i < 5 → w i = v i := by
  unfold same5
  simp only [wi_beq, Bool.and_eq_true, beq_iff_eq, Bool.and_true]
  constructor
  · rintro ⟨h0, h1, h2, h3, h4⟩ i hi
    match i, hi with
    | 0, _ => exact h0
    | 1, _ => exact h1
    | 2, _ => exact h2
    | 3, _ => exact h3
    | 4, _ => exact h4
  · intro h
    exact ⟨h 0 (by decide), h 1 (by decide), h 2 (by decide), h 3 (by decide), h 4 (by decide)⟩
theorem S_beq (a b : List UInt8) : (ByteArray.toList (S a) == ByteArray.toList (S b)) = (a == b) := by rw [S_toList, S_toList]
theorem bAt_ok (l : List UInt8) (n : Nat) (h : n < l.length) (P : UInt8 → Prop) (hP : ∀ c ∈ l, P c) : ∃ c, Eng.bAt (S l) n = ((c.toNat : Nat) : Int) ∧ P c := by
  refine ⟨l[n], ?_, hP _ (List.getElem_mem h)⟩
  rw [bAt_S, List.getD_eq_getElem?_getD, List.getElem?_eq_getElem h]; rfl
theorem lShaHex (d e : Nat → UInt8) : Xepactlaw06_ShaHex (t20 d) (t20 e) (fun b => b = true) := by
  unfold Xepactlaw06_ShaHex Yepactlaw06_ShaHex
  refine sSmall ?_
  refine sHex d ?_
  rw [if_neg (show ¬ (((S (hexN d 20)).size : Int) != 40) = true by rw [S_size, hexN_len]; decide)]
  have hs : (S (hexN d 20)).size = 40 := by rw [S_size, hexN_len]
  refine lp_at (fun j => (((), (), false, true, S (hexN d 20), (j : Int), ()), t20 d, t20 e, ())) 40 rfl fun n hn k hk => ?_
  unfold Lepactlaw06_ShaHex_0
  simp only [decide_eq_true_eq, hs]
  by_cases en : n = 40
  · subst en
    rw [if_neg (by omega)]
    show lt (same20 d e) _
    simp only [lt, if_true]
    refine sHex e ?_
    have h1 : (hexN e 20 == hexN d 20) = same20 d e := by
      rw [Bool.eq_iff_iff, beq_iff_eq, same20_iff]
      exact ⟨fun h i hi => (hexN_inj e d 20 h i hi).symm, fun h => hexN_congr e d 20 fun i hi => (h i hi).symm⟩
    rw [S_beq, h1, if_pos (beq_self_eq_true _)]
    refine sWords e ?_
    refine sWords d ?_
    show (same5 (wordsOf e) (wordsOf d) == same20 d e) = true
    rw [beq_iff_eq, Bool.eq_iff_iff, same5_iff, same20_iff]
    exact ⟨fun h i hi => (words_inj e d h i hi).symm, fun h => words_congr e d fun i hi => (h i hi).symm⟩
  · have hn' : n < 40 := by omega
    have hk' := hk hn'
    have hlt : n < (hexN d 20).length := by rw [hexN_len]; omega
    obtain ⟨c, hb, ok⟩ := bAt_ok (hexN d 20) n hlt _ (hexN_ok d 20)
    have e1 : w64 ((n : Int) + 1) = ((n + 1 : Nat) : Int) := by rw [w64_in (by omega) (by omega)]; omega
    rw [Int.toNat_natCast, hb, e1]
    rw [if_pos (by omega), if_pos (by omega)]
    rw [if_neg (by omega), if_pos (by omega)]
    by_cases h : ((c.toNat : Nat) : Int) > 57
    · rw [if_pos h, if_pos (by omega), if_neg (by omega), if_pos (by omega), if_neg (by omega)]
      exact hk'
    · rw [if_neg h]
      exact hk'
end Go.Proofs.Ytpekhidbfjlboaa
end
section
set_option linter.unusedVariables false
set_option linter.unusedSimpArgs false
namespace Go.Proofs.Ytpekhidbfjlboaa
open Go Go.Proofs.Ytpekhidbfjlboaa.Eng Go.Proofs.Ytpekhidbfjlboaa.Pl
set_option linter.unusedVariables false
set_option linter.unusedSimpArgs false
set_option maxRecDepth 100000
set_option maxHeartbeats 2000000
theorem row20 (u : Nat → UInt8) : [Eng.V.agg [V.c (.int .u8 (bi (u 0))), V.c (.int .u8 (bi (u 1))), V.c (.int .u8 (bi (u 2))), V.c (.int .u8 (bi (u 3))), V.c (.int .u8 (bi (u 4))), V.c (.int .u8 (bi (u 5))), V.c (.int .u8 (bi (u 6))), V.c (.int .u8 (bi (u 7))), V.c (.int .u8 (bi (u 8))), V.c (.int .u8 (bi (u 9))), V.c (.int .u8 (bi (u 10))), V.c (.int .u8 (bi (u 11))), V.c (.int .u8 (bi (u 12))), V.c (.int .u8 (bi (u 13))), V.c (.int .u8 (bi (u 14))), V.c (.int .u8 (bi (u 15))), V.c (.int .u8 (bi (u 16))), V.c (.int .u8 (bi (u 17))), V.c (.int .u8 (bi (u 18))), V.c (.int .u8 (bi (u 19)))]] = agL .u8 20 (fun j => bi (u j)) := by kernel_rfl
theorem lShaParts (v : List V) (ps : List (List UInt8)) (hp : Parts v ps) : Xepactlaw06_ShaParts v (fun b => b = true) := by
  unfold Xepactlaw06_ShaParts Yepactlaw06_ShaParts
  refine sSmall ?_
  rw [hp.1]
  by_cases h20 : (ps.length : Int) > 20
  · rw [if_pos (decide_eq_true h20)]
  rw [if_neg (by rw [decide_eq_true_eq]; exact h20)]
  refine lp_ind (fun x => (ps.length : Nat) - x.1.2.2.2.2.1.toNat) (fun x => ∃ j, j ≤ ps.length ∧ (ps.take j).flatten.length ≤ 100 * j ∧ x = ((v, false, true, (), (j : Int), ()), BV (ps.take j).flatten, ())) ?_ ⟨0, by omega, by simp, rfl⟩
  rintro x ⟨j, hj, hle, rfl⟩ k hk
  unfold Lepactlaw06_ShaParts_0
  rw [hp.1]
  simp only [decide_eq_true_eq]
  by_cases ej : j = ps.length
  · rw [if_neg (by omega)]
    rw [ej, List.take_length] at hle ⊢
    refine sSum v ps hp (by omega) (by omega) ?_
    simp only [row20]
    refine lp_at (fun m => ((v, false, true, (), (), (), (m : Int), ()), agL .u8 20 (fun j => bi (digest ps.flatten j)), BV ps.flatten, BV (ps.take m).flatten, ())) ps.length rfl fun m hm k hk => ?_
    unfold Lepactlaw06_ShaParts_1
    rw [hp.1]
    simp only [decide_eq_true_eq]
    by_cases em : m = ps.length
    · rw [if_neg (by omega), if_pos trivial]
      rw [asIe 0 rfl, asIe 1 rfl, asIe 2 rfl, asIe 3 rfl, asIe 4 rfl, asIe 5 rfl, asIe 6 rfl, asIe 7 rfl, asIe 8 rfl, asIe 9 rfl, asIe 10 rfl, asIe 11 rfl, asIe 12 rfl, asIe 13 rfl, asIe 14 rfl, asIe 15 rfl, asIe 16 rfl, asIe 17 rfl, asIe 18 rfl, asIe 19 rfl]
      refine sSum _ [ps.flatten] (partsC parts0 1 false _ (.inl rfl)) (by simp) (by rw [List.flatten_singleton]; omega) ?_
      rw [List.flatten_singleton]
      simp only [lt, beq_self_eq_true, Bool.and_true, if_true]
      rw [em, List.take_length, if_pos (allU8_BV _), if_pos (allU8_BV _)]
      exact ⟨beq_self_eq_true _, beq_self_eq_true _⟩
    · have hm' : m < ps.length := by omega
      have hk' := hk hm'
      rw [Int.toNat_natCast, if_pos (by omega), if_pos (by omega)]
      refine asPart hp hm' fun fl => ?_
      have e1 : w64 ((m : Int) + 1) = ((m + 1 : Nat) : Int) := by rw [w64_in (by omega) (by omega)]; omega
      rw [flat_len ps m hm'] at hk'
      have h2 := flat_le ps (m + 1)
      rw [flat_len ps m hm', List.length_append] at h2
      rw [if_pos (room _ (by rw [BV_len, BV_len]; omega)), BV_app, e1]
      exact hk'
  · have hj' : j < ps.length := by omega
    rw [Int.toNat_natCast, if_pos (by omega), if_pos (by omega)]
    refine asPart hp hj' fun fl => ?_
    rw [BV_len]
    by_cases h100 : (ps[j].length : Int) > 100
    · rw [if_pos h100]; trivial
    rw [if_neg h100, if_pos (by omega)]
    refine asPart hp hj' fun fl => ?_
    have e1 : w64 ((j : Int) + 1) = ((j + 1 : Nat) : Int) := by rw [w64_in (by omega) (by omega)]; omega
    rw [if_pos (room _ (by rw [BV_len, BV_len]; omega)), BV_app, e1, ← flat_len ps j hj']
    refine hk _ ⟨j + 1, by omega, ?_, rfl⟩ ?_
    · rw [flat_len ps j hj', List.length_append]
      omega
    · show ps.length - ((j + 1 : Nat) : Int).toNat < ps.length - ((j : Nat) : Int).toNat
      omega
end Go.Proofs.Ytpekhidbfjlboaa
end
section
set_option linter.unusedVariables false
set_option linter.unusedSimpArgs false
namespace Go.Proofs.Ytpekhidbfjlboaa
open Go Go.Proofs.Ytpekhidbfjlboaa.Eng Go.Proofs.Ytpekhidbfjlboaa.Pl
set_option linter.unusedVariables false
set_option linter.unusedSimpArgs false
set_option maxRecDepth 100000
theorem u8_of {x : Int} (h : (Lit.int .u8 x).wf = true) : bi (UInt8.ofNat x.toNat) = x := by
  have h' : 0 ≤ x ∧ x ≤ 255 := by simpa [Lit.wf, IntKind.min, IntKind.max, IntKind.signed, IntKind.bits] using h
  unfold bi
  rw [UInt8.toNat_ofNat']
  omega
theorem mk2 {α β : Type} {a b : α} {c d : β} (h : a = b) (k : c = d) : (a, c) = (b, d) := by rw [h, k]
abbrev ak20 : AK := (.st (.cons (.int .u8) (.cons (.int .u8) (.cons (.int .u8) (.cons (.int .u8) (.cons (.int .u8) (.cons (.int .u8) (.cons (.int .u8) (.cons (.int .u8) (.cons (.int .u8) (.cons (.int .u8) (.cons (.int .u8) (.cons (.int .u8) (.cons (.int .u8) (.cons (.int .u8) (.cons (.int .u8) (.cons (.int .u8) (.cons (.int .u8) (.cons (.int .u8) (.cons (.int .u8) (.cons (.int .u8) .nil)))))))))))))))))))))
theorem dig_of (a : ak20.T) (h : ak20.good a) : ∃ d : Nat → UInt8, (ak20.DV a : Q24) = t20 d := by
  obtain ⟨x0, x1, x2, x3, x4, x5, x6, x7, x8, x9, x10, x11, x12, x13, x14, x15, x16, x17, x18, x19, u⟩ := a
  obtain ⟨h0, h1, h2, h3, h4, h5, h6, h7, h8, h9, h10, h11, h12, h13, h14, h15, h16, h17, h18, h19, _⟩ := h
  refine ⟨fun i => UInt8.ofNat (([x0, x1, x2, x3, x4, x5, x6, x7, x8, x9, x10, x11, x12, x13, x14, x15, x16, x17, x18, x19] : List Int).getD i 0).toNat, ?_⟩
  show (x0, x1, x2, x3, x4, x5, x6, x7, x8, x9, x10, x11, x12, x13, x14, x15, x16, x17, x18, x19, ()) = t20 _
  exact (mk2 (u8_of (x := x0) h0).symm (mk2 (u8_of (x := x1) h1).symm (mk2 (u8_of (x := x2) h2).symm (mk2 (u8_of (x := x3) h3).symm (mk2 (u8_of (x := x4) h4).symm (mk2 (u8_of (x := x5) h5).symm (mk2 (u8_of (x := x6) h6).symm (mk2 (u8_of (x := x7) h7).symm (mk2 (u8_of (x := x8) h8).symm (mk2 (u8_of (x := x9) h9).symm (mk2 (u8_of (x := x10) h10).symm (mk2 (u8_of (x := x11) h11).symm (mk2 (u8_of (x := x12) h12).symm (mk2 (u8_of (x := x13) h13).symm (mk2 (u8_of (x := x14) h14).symm (mk2 (u8_of (x := x15) h15).symm (mk2 (u8_of (x := x16) h16).symm (mk2 (u8_of (x := x17) h17).symm (mk2 (u8_of (x := x18) h18).symm (mk2 (u8_of (x := x19) h19).symm rfl))))))))))))))))))))
theorem bytes_of : ∀ (l : List Int), (∀ x ∈ l, (Lit.int .u8 x).wf = true) → (l.map fun x => V.c (.int .u8 x)) = BV (l.map fun x => UInt8.ofNat x.toNat)
  | [], _ => rfl
  | x :: l, h => by
    have := bytes_of l fun y hy => h y (.tail _ hy)
    rw [List.map_cons, List.map_cons, this]
    show _ :: _ = V.c (.int .u8 (bi (UInt8.ofNat x.toNat))) :: _
    rw [u8_of (h x (.head _))]; rfl
end Go.Proofs.Ytpekhidbfjlboaa
end
section
set_option linter.unusedVariables false
set_option linter.unusedSimpArgs false
namespace Go.Proofs.Ytpekhidbfjlboaa
open Go Go.Proofs.Ytpekhidbfjlboaa.Eng Go.Proofs.Ytpekhidbfjlboaa.Pl
theorem shaParts0 (a : List (List Int)) (h : ∀ l ∈ a, ∀ x ∈ l, (Lit.int .u8 x).wf = true) : Xepactlaw06_ShaParts (a.map fun l => V.sl 1 false (l.map fun x => V.c (.int .u8 x))) (fun b => b = true) := by
  refine lShaParts _ (a.map fun l => l.map fun x => UInt8.ofNat x.toNat) ⟨?_, fun i hi => ?_⟩
  · rw [List.length_map, List.length_map]
  · have hi' : i < a.length := by simpa using hi
    refine ⟨1, false, ?_, .inl rfl⟩
    rw [List.getElem?_map, List.getElem?_eq_getElem hi', Option.map_some, bytes_of _ (h _ (List.getElem_mem hi'))]
    simp
theorem pureShaParts : PureShaParts := by
  intro a0 h0
  exact shaParts0 a0 fun l hl => (h0.2 l hl).2
end Go.Proofs.Ytpekhidbfjlboaa
end
