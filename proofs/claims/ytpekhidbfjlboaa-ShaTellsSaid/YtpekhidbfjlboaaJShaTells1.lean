/- What the functions come to in plain data, with proofs, and what that answers. -/
import Derived.Test.YtpekhidbfjlboaaJShaTells0
import Derived.KernelRfl
section
set_option linter.unusedVariables false
set_option linter.unusedSimpArgs false
namespace Go.Proofs.Ytpekhidbfjlboaa
open Go Go.Proofs.Ytpekhidbfjlboaa.Eng Go.Proofs.Ytpekhidbfjlboaa.Pl
set_option linter.unusedVariables false
set_option linter.unusedSimpArgs false
set_option maxRecDepth 100000
set_option maxHeartbeats 1000000

def abcS : List UInt8 := [97, 57, 57, 57, 51, 101, 51, 54, 52, 55, 48, 54, 56, 49, 54, 97, 98, 97, 51, 101, 50, 53, 55, 49, 55, 56, 53, 48, 99, 50, 54, 99, 57, 99, 100, 48, 100, 56, 57, 100]
def noS : List UInt8 := [100, 97, 51, 57, 97, 51, 101, 101, 53, 101, 54, 98, 52, 98, 48, 100, 51, 50, 53, 53, 98, 102, 101, 102, 57, 53, 54, 48, 49, 56, 57, 48, 97, 102, 100, 56, 48, 55, 48, 57]
theorem small_abc : (hexN (digest [97, 98, 99]) 20 == abcS && wi (wordsOf (digest [97, 98, 99]) 0) == 2845392438 && wi (wordsOf (digest [97, 98, 99]) 4) == 2630932637) = true := by kernel_rfl
theorem small_no : (hexN (digest []) 20 == noS) = true := by kernel_rfl
theorem eqS (l a : List UInt8) (h : l = a) : (ByteArray.toList (S l) == ByteArray.toList (ByteArray.mk a.toArray)) = true := by
  subst h; exact beq_self_eq_true _
theorem parts0 : Parts [] [] := ⟨rfl, fun i h => absurd h (Nat.not_lt_zero i)⟩
theorem partsC {v : List V} {ps : List (List UInt8)} (h : Parts v ps) (es : Nat) (fl : Bool) (l : List UInt8) (he : es = 1 ∨ l = []) : Parts (.sl es fl (BV l) :: v) (l :: ps) := by
  refine ⟨by simp [h.1], fun i hi => ?_⟩
  cases i with
  | zero => exact ⟨es, fl, rfl, he⟩
  | succ i => exact h.2 i (by simpa using hi)
theorem sSmall {K : Bool → Prop} (h : K true) : Xepactlaw06_small K := by
  unfold Xepactlaw06_small Yepactlaw06_small
  have fa := small_abc
  have fn := small_no
  simp only [Bool.and_eq_true, beq_iff_eq, abcS, noS] at fa fn
  refine sSum _ [[97, 98, 99]] (partsC parts0 1 false [97, 98, 99] (.inl rfl)) (by decide) (by decide) ?_
  refine sSum _ [] parts0 (by decide) (by decide) ?_
  refine sSum _ [[97], [], [98, 99]] (partsC (partsC (partsC parts0 1 false [98, 99] (.inl rfl)) 0 true [] (.inr rfl)) 1 false [97] (.inl rfl)) (by decide) (by decide) ?_
  rw [show ([[97], [], [98, 99]] : List (List UInt8)).flatten = [97, 98, 99] from rfl, show ([[97, 98, 99]] : List (List UInt8)).flatten = [97, 98, 99] from rfl, show ([] : List (List UInt8)).flatten = [] from rfl]
  generalize digest [97, 98, 99] = d at *
  generalize digest [] = e at *
  refine sWords d ?_
  refine sHex d ?_
  simp only [lt]
  rw [if_pos (eqS _ _ fa.1.1)]
  refine sHex e ?_
  rw [if_pos (eqS _ _ fn)]
  simp only [beq_self_eq_true, Bool.and_true, if_true, fa.1.2, fa.2]
  exact h
end Go.Proofs.Ytpekhidbfjlboaa
end
section
set_option linter.unusedVariables false
set_option linter.unusedSimpArgs false
namespace Go.Proofs.Ytpekhidbfjlboaa
open Go Go.Proofs.Ytpekhidbfjlboaa.Eng Go.Proofs.Ytpekhidbfjlboaa.Pl
set_option linter.unusedVariables false
set_option linter.unusedSimpArgs false
set_option maxRecDepth 100000
set_option maxHeartbeats 2000000

theorem word4 (a b c d : UInt8) : (word [a, b, c, d] 0).toNat = a.toNat * 16777216 + b.toNat * 65536 + c.toNat * 256 + d.toNat := by
  have ha := bi_lt a; have hb := bi_lt b; have hc := bi_lt c; have hd := bi_lt d
  have or_add : ∀ (x : W32) (c : UInt8), x.toNat < 16777216 → (x <<< 8 ||| BitVec.ofNat 32 c.toNat).toNat = x.toNat * 256 + c.toNat := by
    intro x c hx
    have hc := bi_lt c
    rw [BitVec.toNat_or, BitVec.toNat_shiftLeft, BitVec.toNat_ofNat, Nat.mod_eq_of_lt (show c.toNat < 2 ^ 32 by omega)]
    rw [Nat.shiftLeft_eq, Nat.mod_eq_of_lt (show x.toNat * 2 ^ 8 < 2 ^ 32 by omega)]
    rw [Nat.mul_comm, ← Nat.two_pow_add_eq_or_of_lt (by omega)]
  simp only [word, List.foldl_cons, List.foldl_nil]
  have h0 : ((0 : W32) <<< 8 ||| BitVec.ofNat 32 a.toNat).toNat = a.toNat := by
    rw [or_add _ _ (by decide)]; simp
  have h1 := or_add ((0 : W32) <<< 8 ||| BitVec.ofNat 32 a.toNat) b (by omega)
  rw [h0] at h1
  have h2 := or_add _ c (show (((0 : W32) <<< 8 ||| BitVec.ofNat 32 a.toNat) <<< 8 ||| BitVec.ofNat 32 b.toNat).toNat < 16777216 by omega)
  rw [h1] at h2
  have h3 := or_add _ d (show ((((0 : W32) <<< 8 ||| BitVec.ofNat 32 a.toNat) <<< 8 ||| BitVec.ofNat 32 b.toNat) <<< 8 ||| BitVec.ofNat 32 c.toNat).toNat < 16777216 by omega)
  rw [h2] at h3
  rw [h3]; omega
theorem byteOfWord (d : Nat → UInt8) (i : Nat) : UInt8.ofNat ((wordsOf d (i / 4)).toNat / 2 ^ (24 - 8 * (i % 4))) = d i := by
  unfold wordsOf
  rw [word4]
  have h0 := bi_lt (d (4 * (i / 4))); have h1 := bi_lt (d (4 * (i / 4) + 1)); have h2 := bi_lt (d (4 * (i / 4) + 2)); have h3 := bi_lt (d (4 * (i / 4) + 3))
  apply UInt8.toNat_inj.1
  rw [UInt8.toNat_ofNat']
  have hm : i % 4 = 0 ∨ i % 4 = 1 ∨ i % 4 = 2 ∨ i % 4 = 3 := by omega
  rcases hm with hm | hm | hm | hm
  · rw [hm, show i = 4 * (i / 4) by omega]
    rw [show 4 * (i / 4) / 4 = i / 4 by omega]
    simp only [show (2 ^ (24 - 8 * 0) : Nat) = 16777216 from rfl, show (2 ^ 8 : Nat) = 256 from rfl]
    omega
  · rw [hm]
    have e : d i = d (4 * (i / 4) + 1) := by congr 1; omega
    rw [e]
    simp only [show (2 ^ (24 - 8 * 1) : Nat) = 65536 from rfl, show (2 ^ 8 : Nat) = 256 from rfl]
    omega
  · rw [hm]
    have e : d i = d (4 * (i / 4) + 2) := by congr 1; omega
    rw [e]
    simp only [show (2 ^ (24 - 8 * 2) : Nat) = 256 from rfl, show (2 ^ 8 : Nat) = 256 from rfl]
    omega
  · rw [hm]
    have e : d i = d (4 * (i / 4) + 3) := by congr 1; omega
    rw [e]
    simp only [show (2 ^ (24 - 8 * 3) : Nat) = 1 from rfl, show (2 ^ 8 : Nat) = 256 from rfl]
    omega
theorem words_inj (d e : Nat → UInt8) (h : ∀ j, j < 5 → wordsOf d j = wordsOf e j) : ∀ i, i < 20 → d i = e i := fun i hi => by
  rw [← byteOfWord d i, ← byteOfWord e i, h _ (by omega)]
theorem words_congr (d e : Nat → UInt8) (h : ∀ i, i < 20 → d i = e i) : ∀ j, j < 5 → wordsOf d j = wordsOf e j := fun j hj => by
  unfold wordsOf
  rw [h _ (by omega), h _ (by omega), h _ (by omega), h _ (by omega)]
theorem hexC_inj : ∀ a b : Fin 16, hexC a.val = hexC b.val → a = b := by decide
theorem hexN_snoc (d : Nat → UInt8) (n : Nat) : hexN d (n + 1) = hexN d n ++ [hexC ((d n).toNat / 16), hexC ((d n).toNat % 16)] := rfl
theorem hexN_inj (d e : Nat → UInt8) : ∀ n, hexN d n = hexN e n → ∀ i, i < n → d i = e i := by
  intro n
  induction n with
  | zero => intro _ i hi; omega
  | succ n ih =>
    intro h i hi
    rw [hexN_snoc, hexN_snoc] at h
    obtain ⟨h1, h2⟩ := List.append_inj h (by rw [hexN_len, hexN_len])
    by_cases e' : i = n
    · subst e'
      simp only [List.cons.injEq, and_true] at h2
      have hd := bi_lt (d i); have he := bi_lt (e i)
      have a1 := hexC_inj ⟨(d i).toNat / 16, by omega⟩ ⟨(e i).toNat / 16, by omega⟩ h2.1
      have a2 := hexC_inj ⟨(d i).toNat % 16, by omega⟩ ⟨(e i).toNat % 16, by omega⟩ h2.2
      simp only [Fin.mk.injEq] at a1 a2
      apply UInt8.toNat_inj.1
      omega
    · exact ih h1 i (by omega)
theorem hexN_congr (d e : Nat → UInt8) : ∀ n, (∀ i, i < n → d i = e i) → hexN d n = hexN e n := by
  intro n
  induction n with
  | zero => intro _; rfl
  | succ n ih => intro h; rw [hexN_snoc, hexN_snoc, ih fun i hi => h i (by omega), h n (by omega)]
theorem hexC_ok : ∀ a : Fin 16, (48 ≤ (hexC a.val).toNat ∧ (hexC a.val).toNat ≤ 57) ∨ (97 ≤ (hexC a.val).toNat ∧ (hexC a.val).toNat ≤ 102) := by decide
theorem hexN_ok (d : Nat → UInt8) : ∀ n, ∀ c ∈ hexN d n, (48 ≤ c.toNat ∧ c.toNat ≤ 57) ∨ (97 ≤ c.toNat ∧ c.toNat ≤ 102) := by
  intro n
  induction n with
  | zero => intro c hc; cases hc
  | succ n ih =>
    intro c hc
    rw [hexN_snoc] at hc
    have hd := bi_lt (d n)
    rcases List.mem_append.1 hc with hc | hc
    · exact ih c hc
    · simp only [List.mem_cons, List.not_mem_nil, or_false] at hc
      rcases hc with rfl | rfl
      · exact hexC_ok ⟨(d n).toNat / 16, by omega⟩
      · exact hexC_ok ⟨(d n).toNat % 16, by omega⟩
end Go.Proofs.Ytpekhidbfjlboaa
end
section
set_option linter.unusedVariables false
set_option linter.unusedSimpArgs false
namespace Go.Proofs.Ytpekhidbfjlboaa
open Go Go.Proofs.Ytpekhidbfjlboaa.Eng Go.Proofs.Ytpekhidbfjlboaa.Pl
set_option linter.unusedVariables false
set_option linter.unusedSimpArgs false
set_option maxRecDepth 100000
set_option maxHeartbeats 2000000

theorem row5 (w : Nat → W32) : [Eng.V.agg [V.c (.int .u32 (wi (w 0))), V.c (.int .u32 (wi (w 1))), V.c (.int .u32 (wi (w 2))), V.c (.int .u32 (wi (w 3))), V.c (.int .u32 (wi (w 4)))]] = agL .u32 5 (fun j => wi (w j)) := by kernel_rfl
theorem hex_at0 (d : Nat → UInt8) : (hexN d 20).getD 0 0 = hexC ((d 0).toNat / 16) := by
  have : ∀ n, (hexN d (n + 1)).getD 0 0 = hexC ((d 0).toNat / 16) := by
    intro n
    induction n with
    | zero => rfl
    | succ n ih =>
      rw [hexN_snoc, List.getD_eq_getElem?_getD, List.getElem?_append_left (by rw [hexN_len]; omega), ← List.getD_eq_getElem?_getD]
      exact ih
  exact this 19
theorem hexC0 : ∀ a : Fin 16, (decide (0 < a.val)) = ((((hexC a.val).toNat : Nat) : Int) != 48) := by decide
theorem lShaWords (d : Nat → UInt8) : Xepactlaw06_ShaWords (t20 d) (fun b => b = true) := by
  unfold Xepactlaw06_ShaWords Yepactlaw06_ShaWords
  refine sSmall ?_
  refine sWords d ?_
  refine sHex d ?_
  rw [row5 (wordsOf d), zeros20]
  refine lp_at (fun j => (((), false, true, (), S (hexN d 20), (), (j : Int), ()), t20 d, agL .u32 5 (fun j => wi (wordsOf d j)), agL .u8 20 (part d j), ())) 20 rfl fun n hn k hk => ?_
  unfold Lepactlaw06_ShaWords_0
  simp only [decide_eq_true_eq]
  by_cases e : n = 20
  · subst e
    rw [if_neg (by omega), if_pos trivial]
    rw [asIe 0 rfl, asIe 1 rfl, asIe 2 rfl, asIe 3 rfl, asIe 4 rfl, asIe 5 rfl, asIe 6 rfl, asIe 7 rfl, asIe 8 rfl, asIe 9 rfl, asIe 10 rfl, asIe 11 rfl, asIe 12 rfl, asIe 13 rfl, asIe 14 rfl, asIe 15 rfl, asIe 16 rfl, asIe 17 rfl, asIe 18 rfl, asIe 19 rfl]
    simp only [lt, part, Nat.reduceLT, if_true, beq_self_eq_true, Bool.and_true]
    rw [if_pos (show (((S (hexN d 20)).size : Int) == 40) = true by rw [S_size, hexN_len]; rfl), if_pos (by rw [S_size, hexN_len]; omega)]
    rw [bAt_S, hex_at0]
    have h := bi_lt (d 0)
    have := hexC0 ⟨(d 0).toNat / 16, by omega⟩
    rw [← this]
    simp only [beq_iff_eq, decide_eq_decide]
    unfold bi
    omega
  · have hn' : n < 20 := by omega
    have hk' := hk hn'
    rw [← part_next] at hk'
    have e4 : w64 (Int.tdiv (n : Int) 4) = ((n / 4 : Nat) : Int) := by
      rw [Int.tdiv_eq_ediv_of_nonneg (by omega), w64_in (by omega) (by omega)]; omega
    have e5 : w64 (24 - w64 (8 * Int.tmod (n : Int) 4)) = ((24 - 8 * (n % 4) : Nat) : Int) := by
      rw [Int.tmod_eq_emod_of_nonneg (by omega), w64_in (n := 8 * ((n : Int) % 4)) (by omega) (by omega), w64_in (by omega) (by omega)]; omega
    have e1 : w64 ((n : Int) + 1) = ((n + 1 : Nat) : Int) := by rw [w64_in (by omega) (by omega)]; omega
    rw [e4, e5, e1]
    simp only [Int.toNat_natCast, Nat.mul_one, Nat.zero_add, lt]
    rw [if_pos (by omega), if_pos (by omega)]
    refine asI (by omega) ?_
    rw [if_neg (by omega), if_pos (by omega), if_pos (show (0 : Nat) < List.length (agL .u8 20 (part d n)) from Nat.zero_lt_one), if_pos (by show n + 1 ≤ 20; omega)]
    rw [show min (24 - 8 * (n % 4)) 32 = 24 - 8 * (n % 4) by omega]
    have e8 := wu8_shr (wordsOf d (n / 4)).toNat (24 - 8 * (n % 4)) (Nat.lt_trans (wi_lt _) (by omega))
    rw [show Int.fdiv (wi (wordsOf d (n / 4))) (2 ^ (24 - 8 * (n % 4))) = Int.fdiv ((wordsOf d (n / 4)).toNat : Int) (2 ^ (24 - 8 * (n % 4))) from rfl, e8, byteOfWord, agL_set (by omega)]
    exact hk'
def same20 (d e : Nat → UInt8) : Bool := bi (d 0) == bi (e 0) && (bi (d 1) == bi (e 1) && (bi (d 2) == bi (e 2) && (bi (d 3) == bi (e 3) && (bi (d 4) == bi (e 4) && (bi (d 5) == bi (e 5) && (bi (d 6) == bi (e 6) && (bi (d 7) == bi (e 7) && (bi (d 8) == bi (e 8) && (bi (d 9) == bi (e 9) && (bi (d 10) == bi (e 10) && (bi (d 11) == bi (e 11) && (bi (d 12) == bi (e 12) && (bi (d 13) == bi (e 13) && (bi (d 14) == bi (e 14) && (bi (d 15) == bi (e 15) && (bi (d 16) == bi (e 16) && (bi (d 17) == bi (e 17) && (bi (d 18) == bi (e 18) && (bi (d 19) == bi (e 19) && true)))))))))))))))))))
theorem bi_beq (a b : UInt8) : (bi a == bi b) = (a == b) := by
  rw [Bool.eq_iff_iff, beq_iff_eq, beq_iff_eq]
  constructor
  · intro h; apply UInt8.toNat_inj.1; unfold bi at h; omega
  · intro h; rw [h]
theorem wi_beq (a b : W32) : (wi a == wi b) = (a == b) := by
  rw [Bool.eq_iff_iff, beq_iff_eq, beq_iff_eq]
  constructor
  · intro h; apply BitVec.eq_of_toNat_eq; unfold wi at h; omega
  · intro h; rw [h]
theorem same20_iff (d e : Nat → UInt8) : same20 d e = true ↔ ∀ i, i < 20 → d i = e i := by
  unfold same20
  simp only [bi_beq, Bool.and_eq_true, beq_iff_eq, Bool.and_true]
  constructor
  · intro h i hi
    obtain ⟨h0, h1, h2, h3, h4, h5, h6, h7, h8, h9, h10, h11, h12, h13, h14, h15, h16, h17, h18, h19⟩ := h
    have q : i = 0 ∨ i = 1 ∨ i = 2 ∨ i = 3 ∨ i = 4 ∨ i = 5 ∨ i = 6 ∨ i = 7 ∨ i = 8 ∨ i = 9 ∨ i = 10 ∨ i = 11 ∨ i = 12 ∨ i = 13 ∨ i = 14 ∨ i = 15 ∨ i = 16 ∨ i = 17 ∨ i = 18 ∨ i = 19 := by omega
    rcases q with rfl | rfl | rfl | rfl | rfl | rfl | rfl | rfl | rfl | rfl | rfl | rfl | rfl | rfl | rfl | rfl | rfl | rfl | rfl | rfl
    · exact h0
    · exact h1
    · exact h2
    · exact h3
    · exact h4
    · exact h5
    · exact h6
    · exact h7
    · exact h8
    · exact h9
    · exact h10
    · exact h11
    · exact h12
    · exact h13
    · exact h14
    · exact h15
    · exact h16
    · exact h17
    · exact h18
    · exact h19
  · intro h
    exact ⟨h 0 (by decide), h 1 (by decide), h 2 (by decide), h 3 (by decide), h 4 (by decide), h 5 (by decide), h 6 (by decide), h 7 (by decide), h 8 (by decide), h 9 (by decide), h 10 (by decide), h 11 (by decide), h 12 (by decide), h 13 (by decide), h 14 (by decide), h 15 (by decide), h 16 (by decide), h 17 (by decide), h 18 (by decide), h 19 (by decide)⟩
def same5 (w v : Nat → W32) : Bool := wi (w 0) == wi (v 0) && (wi (w 1) == wi (v 1) && (wi (w 2) == wi (v 2) && (wi (w 3) == wi (v 3) && (wi (w 4) == wi (v 4) && true))))
theorem same5_iff (w v : Nat → W32) : same5 w v = true ↔ ∀ i, i < 5 → w i = v i := by
  unfold same5
  simp only [wi_beq, Bool.and_eq_true, beq_iff_eq, Bool.and_true]
  constructor
  · rintro ⟨h0, h1, h2, h3, h4⟩ i hi
    match i, hi with
    | 0, _ => exact h0
    | 1, _ => exact h1
    | 2, _ => exact h2
    | 3, _ => exact h3
    | 4, _ => exact h4
  · intro h
    exact ⟨h 0 (by decide), h 1 (by decide), h 2 (by decide), h 3 (by decide), h 4 (by decide)⟩
theorem S_beq (a b : List UInt8) : (ByteArray.toList (S a) == ByteArray.toList (S b)) = (a == b) := by rw [S_toList, S_toList]
theorem bAt_ok (l : List UInt8) (n : Nat) (h : n < l.length) (P : UInt8 → Prop) (hP : ∀ c ∈ l, P c) : ∃ c, Eng.bAt (S l) n = ((c.toNat : Nat) : Int) ∧ P c := by
  refine ⟨l[n], ?_, hP _ (List.getElem_mem h)⟩
  rw [bAt_S, List.getD_eq_getElem?_getD, List.getElem?_eq_getElem h]; rfl
theorem lShaHex (d e : Nat → UInt8) : Xepactlaw06_ShaHex (t20 d) (t20 e) (fun b => b = true) := by
  unfold Xepactlaw06_ShaHex Yepactlaw06_ShaHex
  refine sSmall ?_
  refine sHex d ?_
  rw [if_neg (show ¬ (((S (hexN d 20)).size : Int) != 40) = true by rw [S_size, hexN_len]; decide)]
  have hs : (S (hexN d 20)).size = 40 := by rw [S_size, hexN_len]
  refine lp_at (fun j => (((), (), false, true, S (hexN d 20), (j : Int), ()), t20 d, t20 e, ())) 40 rfl fun n hn k hk => ?_
  unfold Lepactlaw06_ShaHex_0
  simp only [decide_eq_true_eq, hs]
  by_cases en : n = 40
  · subst en
    rw [if_neg (by omega)]
    show lt (same20 d e) _
    simp only [lt, if_true]
    refine sHex e ?_
    have h1 : (hexN e 20 == hexN d 20) = same20 d e := by
      rw [Bool.eq_iff_iff, beq_iff_eq, same20_iff]
      exact ⟨fun h i hi => (hexN_inj e d 20 h i hi).symm, fun h => hexN_congr e d 20 fun i hi => (h i hi).symm⟩
    rw [S_beq, h1, if_pos (beq_self_eq_true _)]
    refine sWords e ?_
    refine sWords d ?_
    show (same5 (wordsOf e) (wordsOf d) == same20 d e) = true
    rw [beq_iff_eq, Bool.eq_iff_iff, same5_iff, same20_iff]
    exact ⟨fun h i hi => (words_inj e d h i hi).symm, fun h => words_congr e d fun i hi => (h i hi).symm⟩
  · have hn' : n < 40 := by omega
    have hk' := hk hn'
    have hlt : n < (hexN d 20).length := by rw [hexN_len]; omega
    obtain ⟨c, hb, ok⟩ := bAt_ok (hexN d 20) n hlt _ (hexN_ok d 20)
    have e1 : w64 ((n : Int) + 1) = ((n + 1 : Nat) : Int) := by rw [w64_in (by omega) (by omega)]; omega
    rw [Int.toNat_natCast, hb, e1]
    rw [if_pos (by omega), if_pos (by omega)]
    rw [if_neg (by omega), if_pos (by omega)]
    by_cases h : ((c.toNat : Nat) : Int) > 57
    · rw [if_pos h, if_pos (by omega), if_neg (by omega), if_pos (by omega), if_neg (by omega)]
      exact hk'
    · rw [if_neg h]
      exact hk'
end Go.Proofs.Ytpekhidbfjlboaa
end
section
set_option linter.unusedVariables false
set_option linter.unusedSimpArgs false
namespace Go.Proofs.Ytpekhidbfjlboaa
open Go Go.Proofs.Ytpekhidbfjlboaa.Eng Go.Proofs.Ytpekhidbfjlboaa.Pl
set_option linter.unusedVariables false
set_option linter.unusedSimpArgs false
set_option maxRecDepth 100000
set_option maxHeartbeats 2000000
theorem row20 (u : Nat → UInt8) : [Eng.V.agg [V.c (.int .u8 (bi (u 0))), V.c (.int .u8 (bi (u 1))), V.c (.int .u8 (bi (u 2))), V.c (.int .u8 (bi (u 3))), V.c (.int .u8 (bi (u 4))), V.c (.int .u8 (bi (u 5))), V.c (.int .u8 (bi (u 6))), V.c (.int .u8 (bi (u 7))), V.c (.int .u8 (bi (u 8))), V.c (.int .u8 (bi (u 9))), V.c (.int .u8 (bi (u 10))), V.c (.int .u8 (bi (u 11))), V.c (.int .u8 (bi (u 12))), V.c (.int .u8 (bi (u 13))), V.c (.int .u8 (bi (u 14))), V.c (.int .u8 (bi (u 15))), V.c (.int .u8 (bi (u 16))), V.c (.int .u8 (bi (u 17))), V.c (.int .u8 (bi (u 18))), V.c (.int .u8 (bi (u 19)))]] = agL .u8 20 (fun j => bi (u j)) := by kernel_rfl
theorem lShaParts (v : List V) (ps : List (List UInt8)) (hp : Parts v ps) : Xepactlaw06_ShaParts v (fun b => b = true) := by
  unfold Xepactlaw06_ShaParts Yepactlaw06_ShaParts
  refine sSmall ?_
  rw [hp.1]
  by_cases h20 : (ps.length : Int) > 20
  · rw [if_pos (decide_eq_true h20)]
  rw [if_neg (by rw [decide_eq_true_eq]; exact h20)]
  refine lp_ind (fun x => (ps.length : Nat) - x.1.2.2.2.2.1.toNat) (fun x => ∃ j, j ≤ ps.length ∧ (ps.take j).flatten.length ≤ 100 * j ∧ x = ((v, false, true, (), (j : Int), ()), BV (ps.take j).flatten, ())) ?_ ⟨0, by omega, by simp, rfl⟩
  rintro x ⟨j, hj, hle, rfl⟩ k hk
  unfold Lepactlaw06_ShaParts_0
  rw [hp.1]
  simp only [decide_eq_true_eq]
  by_cases ej : j = ps.length
  · rw [if_neg (by omega)]
    rw [ej, List.take_length] at hle ⊢
    refine sSum v ps hp (by omega) (by omega) ?_
    simp only [row20]
    refine lp_at (fun m => ((v, false, true, (), (), (), (m : Int), ()), agL .u8 20 (fun j => bi (digest ps.flatten j)), BV ps.flatten, BV (ps.take m).flatten, ())) ps.length rfl fun m hm k hk => ?_
    unfold Lepactlaw06_ShaParts_1
    rw [hp.1]
    simp only [decide_eq_true_eq]
    by_cases em : m = ps.length
    · rw [if_neg (by omega), if_pos trivial]
      rw [asIe 0 rfl, asIe 1 rfl, asIe 2 rfl, asIe 3 rfl, asIe 4 rfl, asIe 5 rfl, asIe 6 rfl, asIe 7 rfl, asIe 8 rfl, asIe 9 rfl, asIe 10 rfl, asIe 11 rfl, asIe 12 rfl, asIe 13 rfl, asIe 14 rfl, asIe 15 rfl, asIe 16 rfl, asIe 17 rfl, asIe 18 rfl, asIe 19 rfl]
      refine sSum _ [ps.flatten] (partsC parts0 1 false _ (.inl rfl)) (by simp) (by rw [List.flatten_singleton]; omega) ?_
      rw [List.flatten_singleton]
      simp only [lt, beq_self_eq_true, Bool.and_true, if_true]
      rw [em, List.take_length, if_pos (allU8_BV _), if_pos (allU8_BV _)]
      exact ⟨beq_self_eq_true _, beq_self_eq_true _⟩
    · have hm' : m < ps.length := by omega
      have hk' := hk hm'
      rw [Int.toNat_natCast, if_pos (by omega), if_pos (by omega)]
      refine asPart hp hm' fun fl => ?_
      have e1 : w64 ((m : Int) + 1) = ((m + 1 : Nat) : Int) := by rw [w64_in (by omega) (by omega)]; omega
      rw [flat_len ps m hm'] at hk'
      have h2 := flat_le ps (m + 1)
      rw [flat_len ps m hm', List.length_append] at h2
      rw [if_pos (room _ (by rw [BV_len, BV_len]; omega)), BV_app, e1]
      exact hk'
  · have hj' : j < ps.length := by omega
    rw [Int.toNat_natCast, if_pos (by omega), if_pos (by omega)]
    refine asPart hp hj' fun fl => ?_
    rw [BV_len]
    by_cases h100 : (ps[j].length : Int) > 100
    · rw [if_pos h100]; trivial
    rw [if_neg h100, if_pos (by omega)]
    refine asPart hp hj' fun fl => ?_
    have e1 : w64 ((j : Int) + 1) = ((j + 1 : Nat) : Int) := by rw [w64_in (by omega) (by omega)]; omega
    rw [if_pos (room _ (by rw [BV_len, BV_len]; omega)), BV_app, e1, ← flat_len ps j hj']
    refine hk _ ⟨j + 1, by omega, ?_, rfl⟩ ?_
    · rw [flat_len ps j hj', List.length_append]
      omega
    · show ps.length - ((j + 1 : Nat) : Int).toNat < ps.length - ((j : Nat) : Int).toNat
      omega
end Go.Proofs.Ytpekhidbfjlboaa
end
section
set_option linter.unusedVariables false
set_option linter.unusedSimpArgs false
namespace Go.Proofs.Ytpekhidbfjlboaa
open Go Go.Proofs.Ytpekhidbfjlboaa.Eng Go.Proofs.Ytpekhidbfjlboaa.Pl
set_option linter.unusedVariables false
set_option linter.unusedSimpArgs false
set_option maxRecDepth 100000
theorem u8_of {x : Int} (h : (Lit.int .u8 x).wf = true) : bi (UInt8.ofNat x.toNat) = x := by
  have h' : 0 ≤ x ∧ x ≤ 255 := by simpa [Lit.wf, IntKind.min, IntKind.max, IntKind.signed, IntKind.bits] using h
  unfold bi
  rw [UInt8.toNat_ofNat']
  omega
theorem mk2 {α β : Type} {a b : α} {c d : β} (h : a = b) (k : c = d) : (a, c) = (b, d) := by rw [h, k]
abbrev ak20 : AK := (.st (.cons (.int .u8) (.cons (.int .u8) (.cons (.int .u8) (.cons (.int .u8) (.cons (.int .u8) (.cons (.int .u8) (.cons (.int .u8) (.cons (.int .u8) (.cons (.int .u8) (.cons (.int .u8) (.cons (.int .u8) (.cons (.int .u8) (.cons (.int .u8) (.cons (.int .u8) (.cons (.int .u8) (.cons (.int .u8) (.cons (.int .u8) (.cons (.int .u8) (.cons (.int .u8) (.cons (.int .u8) .nil)))))))))))))))))))))
theorem dig_of (a : ak20.T) (h : ak20.good a) : ∃ d : Nat → UInt8, (ak20.DV a : Q24) = t20 d := by
  obtain ⟨x0, x1, x2, x3, x4, x5, x6, x7, x8, x9, x10, x11, x12, x13, x14, x15, x16, x17, x18, x19, u⟩ := a
  obtain ⟨h0, h1, h2, h3, h4, h5, h6, h7, h8, h9, h10, h11, h12, h13, h14, h15, h16, h17, h18, h19, _⟩ := h
  refine ⟨fun i => UInt8.ofNat (([x0, x1, x2, x3, x4, x5, x6, x7, x8, x9, x10, x11, x12, x13, x14, x15, x16, x17, x18, x19] : List Int).getD i 0).toNat, ?_⟩
  show (x0, x1, x2, x3, x4, x5, x6, x7, x8, x9, x10, x11, x12, x13, x14, x15, x16, x17, x18, x19, ()) = t20 _
  exact (mk2 (u8_of (x := x0) h0).symm (mk2 (u8_of (x := x1) h1).symm (mk2 (u8_of (x := x2) h2).symm (mk2 (u8_of (x := x3) h3).symm (mk2 (u8_of (x := x4) h4).symm (mk2 (u8_of (x := x5) h5).symm (mk2 (u8_of (x := x6) h6).symm (mk2 (u8_of (x := x7) h7).symm (mk2 (u8_of (x := x8) h8).symm (mk2 (u8_of (x := x9) h9).symm (mk2 (u8_of (x := x10) h10).symm (mk2 (u8_of (x := x11) h11).symm (mk2 (u8_of (x := x12) h12).symm (mk2 (u8_of (x := x13) h13).symm (mk2 (u8_of (x := x14) h14).symm (mk2 (u8_of (x := x15) h15).symm (mk2 (u8_of (x := x16) h16).symm (mk2 (u8_of (x := x17) h17).symm (mk2 (u8_of (x := x18) h18).symm (mk2 (u8_of (x := x19) h19).symm rfl))))))))))))))))))))
theorem bytes_of : ∀ (l : List Int), (∀ x ∈ l, (Lit.int .u8 x).wf = true) → (l.map fun x => V.c (.int .u8 x)) = BV (l.map fun x => UInt8.ofNat x.toNat)
  | [], _ => rfl
  | x :: l, h => by
    have := bytes_of l fun y hy => h y (.tail _ hy)
    rw [List.map_cons, List.map_cons, this]
    show _ :: _ = V.c (.int .u8 (bi (UInt8.ofNat x.toNat))) :: _
    rw [u8_of (h x (.head _))]; rfl
end Go.Proofs.Ytpekhidbfjlboaa
end
section
set_option linter.unusedVariables false
set_option linter.unusedSimpArgs false
namespace Go.Proofs.Ytpekhidbfjlboaa
open Go Go.Proofs.Ytpekhidbfjlboaa.Eng Go.Proofs.Ytpekhidbfjlboaa.Pl
set_option linter.unusedVariables false
set_option linter.unusedSimpArgs false
set_option maxRecDepth 100000
set_option maxHeartbeats 2000000

theorem set5z (f z : Nat → Int) : List.set (agL .u32 5 z) 0 (setE (List.getD (agL .u32 5 z) 0 V.bad) 0 [V.c (.int .u32 (f 0)), V.c (.int .u32 (f 1)), V.c (.int .u32 (f 2)), V.c (.int .u32 (f 3)), V.c (.int .u32 (f 4))]) = agL .u32 5 f := by kernel_rfl
theorem read5z (u : Nat → W32) (f z : Nat → Int) (hf : ∀ i, i < 5 → f i = wi (u i)) {K : Q34 → Prop} : (Eng.asInt IntKind.u32 (Eng.getC (agL .u32 5 f) (0 : Nat) (0 : Nat)) False fun m0 =>
    Eng.asInt IntKind.u32 (Eng.getC (agL .u32 5 f) (0 : Nat) (1 : Nat)) False fun m1 =>
    Eng.asInt IntKind.u32 (Eng.getC (agL .u32 5 f) (0 : Nat) (2 : Nat)) False fun m2 =>
    Eng.asInt IntKind.u32 (Eng.getC (agL .u32 5 f) (0 : Nat) (3 : Nat)) False fun m3 =>
    Eng.asInt IntKind.u32 (Eng.getC (agL .u32 5 f) (0 : Nat) (4 : Nat)) False fun m4 =>
    (if (0 : Nat) < List.length (agL .u32 5 z) then
    lt (List.set (agL .u32 5 z) (0 : Nat) (Eng.setE (List.getD (agL .u32 5 z) (0 : Nat) Eng.V.bad) (0 : Nat) [V.c (.int .u32 m0), V.c (.int .u32 m1), V.c (.int .u32 m2), V.c (.int .u32 m3), V.c (.int .u32 m4)])) fun v =>
    Eng.asInt IntKind.u32 (Eng.getC v (0 : Nat) (0 : Nat)) False fun p0 =>
    Eng.asInt IntKind.u32 (Eng.getC v (0 : Nat) (1 : Nat)) False fun p1 =>
    Eng.asInt IntKind.u32 (Eng.getC v (0 : Nat) (2 : Nat)) False fun p2 =>
    Eng.asInt IntKind.u32 (Eng.getC v (0 : Nat) (3 : Nat)) False fun p3 =>
    Eng.asInt IntKind.u32 (Eng.getC v (0 : Nat) (4 : Nat)) False fun p4 =>
    K (p0, p1, p2, p3, p4, ()) else False)) = K (t5 u) := by
  rw [asIe 0 rfl, asIe 1 rfl, asIe 2 rfl, asIe 3 rfl, asIe 4 rfl]
  rw [if_pos (show (0 : Nat) < List.length (agL .u32 5 z) from Nat.zero_lt_one)]
  rw [set5z]
  simp only [lt]
  rw [asIe 0 rfl, asIe 1 rfl, asIe 2 rfl, asIe 3 rfl, asIe 4 rfl]
  rw [hf 0 (by decide), hf 1 (by decide), hf 2 (by decide), hf 3 (by decide), hf 4 (by decide)]
theorem set20z (f z : Nat → Int) : List.set (agL .u8 20 z) 0 (setE (List.getD (agL .u8 20 z) 0 V.bad) 0 [V.c (.int .u8 (f 0)), V.c (.int .u8 (f 1)), V.c (.int .u8 (f 2)), V.c (.int .u8 (f 3)), V.c (.int .u8 (f 4)), V.c (.int .u8 (f 5)), V.c (.int .u8 (f 6)), V.c (.int .u8 (f 7)), V.c (.int .u8 (f 8)), V.c (.int .u8 (f 9)), V.c (.int .u8 (f 10)), V.c (.int .u8 (f 11)), V.c (.int .u8 (f 12)), V.c (.int .u8 (f 13)), V.c (.int .u8 (f 14)), V.c (.int .u8 (f 15)), V.c (.int .u8 (f 16)), V.c (.int .u8 (f 17)), V.c (.int .u8 (f 18)), V.c (.int .u8 (f 19))]) = agL .u8 20 f := by kernel_rfl
theorem read20z (u : Nat → UInt8) (f z : Nat → Int) (hf : ∀ i, i < 20 → f i = bi (u i)) {K : Q24 → Prop} : (Eng.asInt IntKind.u8 (Eng.getC (agL .u8 20 f) (0 : Nat) (0 : Nat)) False fun m0 =>
    Eng.asInt IntKind.u8 (Eng.getC (agL .u8 20 f) (0 : Nat) (1 : Nat)) False fun m1 =>
    Eng.asInt IntKind.u8 (Eng.getC (agL .u8 20 f) (0 : Nat) (2 : Nat)) False fun m2 =>
    Eng.asInt IntKind.u8 (Eng.getC (agL .u8 20 f) (0 : Nat) (3 : Nat)) False fun m3 =>
    Eng.asInt IntKind.u8 (Eng.getC (agL .u8 20 f) (0 : Nat) (4 : Nat)) False fun m4 =>
    Eng.asInt IntKind.u8 (Eng.getC (agL .u8 20 f) (0 : Nat) (5 : Nat)) False fun m5 =>
    Eng.asInt IntKind.u8 (Eng.getC (agL .u8 20 f) (0 : Nat) (6 : Nat)) False fun m6 =>
    Eng.asInt IntKind.u8 (Eng.getC (agL .u8 20 f) (0 : Nat) (7 : Nat)) False fun m7 =>
    Eng.asInt IntKind.u8 (Eng.getC (agL .u8 20 f) (0 : Nat) (8 : Nat)) False fun m8 =>
    Eng.asInt IntKind.u8 (Eng.getC (agL .u8 20 f) (0 : Nat) (9 : Nat)) False fun m9 =>
    Eng.asInt IntKind.u8 (Eng.getC (agL .u8 20 f) (0 : Nat) (10 : Nat)) False fun m10 =>
    Eng.asInt IntKind.u8 (Eng.getC (agL .u8 20 f) (0 : Nat) (11 : Nat)) False fun m11 =>
    Eng.asInt IntKind.u8 (Eng.getC (agL .u8 20 f) (0 : Nat) (12 : Nat)) False fun m12 =>
    Eng.asInt IntKind.u8 (Eng.getC (agL .u8 20 f) (0 : Nat) (13 : Nat)) False fun m13 =>
    Eng.asInt IntKind.u8 (Eng.getC (agL .u8 20 f) (0 : Nat) (14 : Nat)) False fun m14 =>
    Eng.asInt IntKind.u8 (Eng.getC (agL .u8 20 f) (0 : Nat) (15 : Nat)) False fun m15 =>
    Eng.asInt IntKind.u8 (Eng.getC (agL .u8 20 f) (0 : Nat) (16 : Nat)) False fun m16 =>
    Eng.asInt IntKind.u8 (Eng.getC (agL .u8 20 f) (0 : Nat) (17 : Nat)) False fun m17 =>
    Eng.asInt IntKind.u8 (Eng.getC (agL .u8 20 f) (0 : Nat) (18 : Nat)) False fun m18 =>
    Eng.asInt IntKind.u8 (Eng.getC (agL .u8 20 f) (0 : Nat) (19 : Nat)) False fun m19 =>
    (if (0 : Nat) < List.length (agL .u8 20 z) then
    lt (List.set (agL .u8 20 z) (0 : Nat) (Eng.setE (List.getD (agL .u8 20 z) (0 : Nat) Eng.V.bad) (0 : Nat) [V.c (.int .u8 m0), V.c (.int .u8 m1), V.c (.int .u8 m2), V.c (.int .u8 m3), V.c (.int .u8 m4), V.c (.int .u8 m5), V.c (.int .u8 m6), V.c (.int .u8 m7), V.c (.int .u8 m8), V.c (.int .u8 m9), V.c (.int .u8 m10), V.c (.int .u8 m11), V.c (.int .u8 m12), V.c (.int .u8 m13), V.c (.int .u8 m14), V.c (.int .u8 m15), V.c (.int .u8 m16), V.c (.int .u8 m17), V.c (.int .u8 m18), V.c (.int .u8 m19)])) fun v =>
    Eng.asInt IntKind.u8 (Eng.getC v (0 : Nat) (0 : Nat)) False fun p0 =>
    Eng.asInt IntKind.u8 (Eng.getC v (0 : Nat) (1 : Nat)) False fun p1 =>
    Eng.asInt IntKind.u8 (Eng.getC v (0 : Nat) (2 : Nat)) False fun p2 =>
    Eng.asInt IntKind.u8 (Eng.getC v (0 : Nat) (3 : Nat)) False fun p3 =>
    Eng.asInt IntKind.u8 (Eng.getC v (0 : Nat) (4 : Nat)) False fun p4 =>
    Eng.asInt IntKind.u8 (Eng.getC v (0 : Nat) (5 : Nat)) False fun p5 =>
    Eng.asInt IntKind.u8 (Eng.getC v (0 : Nat) (6 : Nat)) False fun p6 =>
    Eng.asInt IntKind.u8 (Eng.getC v (0 : Nat) (7 : Nat)) False fun p7 =>
    Eng.asInt IntKind.u8 (Eng.getC v (0 : Nat) (8 : Nat)) False fun p8 =>
    Eng.asInt IntKind.u8 (Eng.getC v (0 : Nat) (9 : Nat)) False fun p9 =>
    Eng.asInt IntKind.u8 (Eng.getC v (0 : Nat) (10 : Nat)) False fun p10 =>
    Eng.asInt IntKind.u8 (Eng.getC v (0 : Nat) (11 : Nat)) False fun p11 =>
    Eng.asInt IntKind.u8 (Eng.getC v (0 : Nat) (12 : Nat)) False fun p12 =>
    Eng.asInt IntKind.u8 (Eng.getC v (0 : Nat) (13 : Nat)) False fun p13 =>
    Eng.asInt IntKind.u8 (Eng.getC v (0 : Nat) (14 : Nat)) False fun p14 =>
    Eng.asInt IntKind.u8 (Eng.getC v (0 : Nat) (15 : Nat)) False fun p15 =>
    Eng.asInt IntKind.u8 (Eng.getC v (0 : Nat) (16 : Nat)) False fun p16 =>
    Eng.asInt IntKind.u8 (Eng.getC v (0 : Nat) (17 : Nat)) False fun p17 =>
    Eng.asInt IntKind.u8 (Eng.getC v (0 : Nat) (18 : Nat)) False fun p18 =>
    Eng.asInt IntKind.u8 (Eng.getC v (0 : Nat) (19 : Nat)) False fun p19 =>
    K (p0, p1, p2, p3, p4, p5, p6, p7, p8, p9, p10, p11, p12, p13, p14, p15, p16, p17, p18, p19, ()) else False)) = K (t20 u) := by
  rw [asIe 0 rfl, asIe 1 rfl, asIe 2 rfl, asIe 3 rfl, asIe 4 rfl, asIe 5 rfl, asIe 6 rfl, asIe 7 rfl, asIe 8 rfl, asIe 9 rfl, asIe 10 rfl, asIe 11 rfl, asIe 12 rfl, asIe 13 rfl, asIe 14 rfl, asIe 15 rfl, asIe 16 rfl, asIe 17 rfl, asIe 18 rfl, asIe 19 rfl]
  rw [if_pos (show (0 : Nat) < List.length (agL .u8 20 z) from Nat.zero_lt_one)]
  rw [set20z]
  simp only [lt]
  rw [asIe 0 rfl, asIe 1 rfl, asIe 2 rfl, asIe 3 rfl, asIe 4 rfl, asIe 5 rfl, asIe 6 rfl, asIe 7 rfl, asIe 8 rfl, asIe 9 rfl, asIe 10 rfl, asIe 11 rfl, asIe 12 rfl, asIe 13 rfl, asIe 14 rfl, asIe 15 rfl, asIe 16 rfl, asIe 17 rfl, asIe 18 rfl, asIe 19 rfl]
  rw [hf 0 (by decide), hf 1 (by decide), hf 2 (by decide), hf 3 (by decide), hf 4 (by decide), hf 5 (by decide), hf 6 (by decide), hf 7 (by decide), hf 8 (by decide), hf 9 (by decide), hf 10 (by decide), hf 11 (by decide), hf 12 (by decide), hf 13 (by decide), hf 14 (by decide), hf 15 (by decide), hf 16 (by decide), hf 17 (by decide), hf 18 (by decide), hf 19 (by decide)]

theorem rTurn (x : W32) (k : Nat) (h1 : 1 ≤ k) (h : k < 32) {K : Int → Prop} (hk : K (wi (rotl x k))) : Xepactref06_turn (wi x) (k : Int) K := by
  unfold Xepactref06_turn Yepactref06_turn
  have e3 : w64 (32 - (k : Int)) = ((32 - k : Nat) : Int) := by rw [w64_in (by omega) (by omega)]; omega
  rw [if_neg (by omega), e3, if_neg (by omega)]
  simp only [lt, Int.toNat_natCast]
  rw [show min k 32 = k by omega, show min (32 - k) 32 = 32 - k by omega, wi_shl, wi_shr, wi_or]
  exact hk
theorem f1 (b c d : W32) : (b &&& c) ^^^ ((4294967295#32 ^^^ b) &&& d) = d ^^^ (b &&& (c ^^^ d)) := by
  apply BitVec.eq_of_getLsbD_eq
  intro i hi
  simp only [BitVec.getLsbD_xor, BitVec.getLsbD_and]
  have : (4294967295#32).getLsbD i = true := by
    have : ∀ j : Fin 32, (4294967295#32).getLsbD j.val = true := by decide
    exact this ⟨i, hi⟩
  rw [this]
  cases b.getLsbD i <;> cases c.getLsbD i <;> cases d.getLsbD i <;> rfl
theorem f3 (b c d : W32) : ((b &&& c) ^^^ (b &&& d)) ^^^ (c &&& d) = (b &&& c) ||| (d &&& (b ||| c)) := by
  apply BitVec.eq_of_getLsbD_eq
  intro i hi
  simp only [BitVec.getLsbD_xor, BitVec.getLsbD_and, BitVec.getLsbD_or]
  cases b.getLsbD i <;> cases c.getLsbD i <;> cases d.getLsbD i <;> rfl
theorem rMix (i : Nat) (hi : i < 80) (b c d : W32) {K : Int → Prop} (h : K (wi (fAt i b c d + kAt i))) : Xepactref06_mix (i : Int) (wi b) (wi c) (wi d) K := by
  unfold Xepactref06_mix Yepactref06_mix
  have q0 : (4294967295 : Int) = wi 4294967295#32 := by decide
  have q1 : (1518500249 : Int) = wi 1518500249#32 := by decide
  have q2 : (1859775393 : Int) = wi 1859775393#32 := by decide
  have q3 : (2400959708 : Int) = wi 2400959708#32 := by decide
  have q4 : (3395469782 : Int) = wi 3395469782#32 := by decide
  rw [q0, q1, q2, q3, q4]
  simp only [decide_eq_true_eq, lt, wi_xor, wi_and, wi_add]
  unfold fAt kAt at h
  by_cases c1 : i < 20
  · rw [if_pos (by omega)]
    rw [if_pos c1, if_pos c1] at h
    rw [f1]; exact h
  rw [if_neg c1, if_neg c1] at h
  rw [if_neg (by omega)]
  by_cases c2 : i < 40
  · rw [if_pos (by omega)]
    rw [if_pos c2, if_pos c2] at h
    exact h
  rw [if_neg c2, if_neg c2] at h
  rw [if_neg (by omega)]
  by_cases c3 : i < 60
  · rw [if_pos (by omega)]
    rw [if_pos c3, if_pos c3] at h
    rw [f3]; exact h
  rw [if_neg c3, if_neg c3] at h
  rw [if_neg (by omega)]
  exact h
theorem rPadded (b : List UInt8) (hb : b.length ≤ 100000) {K : List V → Bool → Bool → Prop} (h : K (BV (padL b)) true false) : Xepactref06_padded (BV b) K := by
  unfold Xepactref06_padded Yepactref06_padded
  rw [List.nil_append, if_pos (room _ (by rw [BV_len]; omega)), if_pos (room _ (by rw [BV_len]; omega))]
  rw [show V.c (.int .u8 128) = cb 128 from rfl, show [cb 128] = BV [128] from rfl, BV_app]
  refine lp_at (fun j => ((BV b, (), (), ()), BV (b ++ [128] ++ List.replicate j 0), ())) ((184 - (b.length + 1) % 64) % 64) (by simp) fun n hn k hk => ?_
  unfold Lepactref06_padded_0
  have hl : (BV (b ++ [128] ++ List.replicate n 0)).length = b.length + 1 + n := by rw [BV_len]; simp; omega
  rw [hl]
  have em : Int.tmod ((b.length + 1 + n : Nat) : Int) 64 = (((b.length + 1 + n) % 64 : Nat) : Int) := by rw [Int.tmod_eq_emod_of_nonneg (by omega)]; omega
  rw [em]
  by_cases e : n = (184 - (b.length + 1) % 64) % 64
  · rw [if_neg (by rw [bne_iff_ne]; omega)]
    have e6 : wu64 (wu64 (((BV b).length : Nat) : Int) * 8) = ((8 * b.length : Nat) : Int) := by
      rw [BV_len, wu64_in (n := (b.length : Int)) (by omega) (by omega), wu64_in (by omega) (by omega)]; omega
    simp only [e6]
    refine lp_at (fun j => (((), (), ((8 * b.length : Nat) : Int), (j : Int), ()), BV (b ++ [128] ++ List.replicate n 0 ++ (be64 (8 * b.length)).take j), ())) 8 (by simp) fun m hm k hk => ?_
    unfold Lepactref06_padded_1
    simp only [decide_eq_true_eq]
    by_cases e2 : m = 8
    · rw [if_neg (by omega)]
      subst e2
      rw [List.take_of_length_le (by rw [be64_len]; omega), e]
      exact h
    · have hm' : m < 8 := by omega
      have hk' := hk hm'
      have e8 : w64 (56 - w64 (8 * (m : Int))) = ((8 * (7 - m) : Nat) : Int) := by rw [w64_in (n := 8 * (m : Int)) (by omega) (by omega), w64_in (by omega) (by omega)]; omega
      have e1 : w64 ((m : Int) + 1) = ((m + 1 : Nat) : Int) := by rw [w64_in (by omega) (by omega)]; omega
      rw [e8, e1, if_pos (by omega)]
      simp only [lt, Int.toNat_natCast]
      rw [if_neg (by omega), show min (8 * (7 - m)) 64 = 8 * (7 - m) by omega]
      rw [wu8_shr _ _ (by omega), if_pos (room _ (by rw [BV_len]; simp; omega)), BV_one, BV_app]
      refine (congrArg k ?_).mp hk'
      rw [List.take_succ_eq_append_getElem (by rw [be64_len]; omega), be64_get _ _ hm', ← List.append_assoc]
  · have hn' : n < (184 - (b.length + 1) % 64) % 64 := by omega
    have hk' := hk hn'
    rw [if_pos (by rw [bne_iff_ne]; omega), if_pos (room _ (by omega))]
    rw [show V.c (.int .u8 0) = cb 0 from rfl, show [cb 0] = BV [0] from rfl, BV_app]
    refine (congrArg k ?_).mp hk'
    rw [List.replicate_succ', ← List.append_assoc]
end Go.Proofs.Ytpekhidbfjlboaa
end
section
set_option linter.unusedVariables false
set_option linter.unusedSimpArgs false
namespace Go.Proofs.Ytpekhidbfjlboaa
open Go Go.Proofs.Ytpekhidbfjlboaa.Eng Go.Proofs.Ytpekhidbfjlboaa.Pl
set_option linter.unusedVariables false
set_option linter.unusedSimpArgs false
set_option maxRecDepth 100000
set_option maxHeartbeats 2000000

def WV (l : List W32) : List V := l.map cw
theorem WV_len (l : List W32) : (WV l).length = l.length := by simp [WV]
theorem WV_app (a b : List W32) : WV a ++ WV b = WV (a ++ b) := by simp [WV]
theorem WV_one (c : W32) : [V.c (.int .u32 (wi c))] = WV [c] := rfl
theorem asW {l : List W32} {i : Nat} (h : i < l.length) {F : Prop} {K : Int → Prop} (hk : K (wi (l.getD i 0))) : Eng.asInt .u32 (getC (WV l) i 0) F K := by
  have : getC (WV l) i 0 = some (cw (l.getD i 0)) := by
    rw [List.getD_eq_getElem?_getD, List.getElem?_eq_getElem h]
    simp [getC, WV, V.cells, h]
  rw [this]; simpa [Eng.asInt] using hk
theorem room4 (n : Nat) (h : n ≤ 100000000) : roomOk n 4 = true := by
  unfold roomOk
  simp only [decide_eq_true_eq]
  omega
abbrev t5s (s : St5) : Q34 := (wi s.a, wi s.b, wi s.c, wi s.d, wi s.e, ())
theorem row5s (s : St5) : [Eng.V.agg [V.c (.int .u32 (wi s.a)), V.c (.int .u32 (wi s.b)), V.c (.int .u32 (wi s.c)), V.c (.int .u32 (wi s.d)), V.c (.int .u32 (wi s.e))]] = agL .u32 5 (fun q => wi (s.at q)) := by kernel_rfl
theorem setAll5 (f g : Nat → Int) : List.set (agL .u32 5 f) 0 (setE (List.getD (agL .u32 5 f) 0 V.bad) 0 [V.c (.int .u32 (g 0)), V.c (.int .u32 (g 1)), V.c (.int .u32 (g 2)), V.c (.int .u32 (g 3)), V.c (.int .u32 (g 4))]) = agL .u32 5 g := by kernel_rfl
theorem word_or (a b c d : UInt8) : (((BitVec.ofNat 32 a.toNat <<< 24 ||| BitVec.ofNat 32 b.toNat <<< 16) ||| BitVec.ofNat 32 c.toNat <<< 8) ||| BitVec.ofNat 32 d.toNat) = word [a, b, c, d] 0 := by
  simp only [word, List.foldl_cons, List.foldl_nil, BitVec.shiftLeft_or_distrib, ← BitVec.shiftLeft_add, BitVec.ofNat_eq_ofNat, BitVec.zero_shiftLeft, BitVec.zero_or, Nat.reduceAdd]
theorem take4 (l : List UInt8) (k : Nat) (h : k + 3 < l.length) : (l.drop k).take 4 = [l[k], l[k + 1], l[k + 2], l[k + 3]] := by
  rw [List.drop_eq_getElem_cons (by omega), List.drop_eq_getElem_cons (by omega), List.drop_eq_getElem_cons (by omega), List.drop_eq_getElem_cons (by omega)]
  rfl
theorem first_succ (b : List UInt8) (i : Nat) : first b (i + 1) = first b i ++ [wordAt b i] := by simp [first, List.range_succ]

/-- The last loop: the sums. -/
theorem rAdd (s h : St5) {K : Q34 → Prop} (k2 k14 k22) (hk : K (t5s (addS s h))) :
    lp (Lepactref06_block_3 K k2 k14 k22) (((), (), (), 0, ()), t5s h, agL .u32 5 (fun _ => 0), agL .u32 5 (fun q => wi (s.at q)), ()) := by
  refine lp_at (fun j => (((), (), (), (j : Int), ()), t5s h, agL .u32 5 (fun _ => 0), agL .u32 5 (fun q => if q < j then wi (s.at q + h.at q) else wi (s.at q)), ())) 5 (by simp) fun n hn k hkk => ?_
  unfold Lepactref06_block_3
  simp only [decide_eq_true_eq]
  by_cases e : n = 5
  · subst e
    rw [if_neg (by omega)]
    rw [read5z (fun q => (addS s h).at q) (fun q => if q < 5 then wi (s.at q + h.at q) else wi (s.at q)) (fun _ => 0) (fun i hi => by
      simp only [hi, if_true]
      match i, hi with
      | 0, _ => rfl
      | 1, _ => rfl
      | 2, _ => rfl
      | 3, _ => rfl
      | 4, _ => rfl)]
    exact hk
  · have hn' : n < 5 := by omega
    have hk' := hkk hn'
    have e1 : w64 ((n : Int) + 1) = ((n + 1 : Nat) : Int) := by rw [w64_in (by omega) (by omega)]; omega
    rw [e1]
    simp only [Int.toNat_natCast, Nat.mul_one, Nat.zero_add]
    rw [if_pos (by omega), if_pos (by omega)]
    refine asI (by omega) ?_
    rw [if_pos (by omega)]
    refine as5 h (by omega) ?_
    simp only [Nat.lt_irrefl, if_false, wi_add, lt]
    rw [if_pos (by omega), if_pos (show (0 : Nat) < List.length (agL .u32 5 (fun q => if q < n then wi (s.at q + h.at q) else wi (s.at q))) from Nat.zero_lt_one), if_pos (by show n + 1 ≤ 5; omega)]
    rw [agL_set (by omega)]
    have : updF (fun q => if q < n then wi (s.at q + h.at q) else wi (s.at q)) n (wi (s.at n + h.at n)) = fun q => if q < n + 1 then wi (s.at q + h.at q) else wi (s.at q) := by
      funext q
      unfold updF
      by_cases eq : q = n
      · subst eq; simp
      · rw [if_neg eq]
        show (if q < n then wi (s.at q + h.at q) else wi (s.at q)) = _
        by_cases hq : q < n
        · rw [if_pos hq, if_pos (by omega)]
        · rw [if_neg hq, if_neg (by omega)]
    rw [this]
    exact hk'
/-- The rounds. -/
theorem rRounds (ws : List W32) (hl : ws.length = 80) (h : St5) {K : Q34 → Prop} (k2 k14) (hk : K (t5s (addS (roundsN ws h 80) h))) :
    lp (Lepactref06_block_2 Xepactref06_turn Xepactref06_mix K k2 k14) (((), (), (), (), 0, ()), t5s h, agL .u32 5 (fun _ => 0), agL .u32 5 (fun q => wi (h.at q)), WV ws, ()) := by
  refine lp_at (fun j => (((), (), (), (), (j : Int), ()), t5s h, agL .u32 5 (fun _ => 0), agL .u32 5 (fun q => wi ((roundsN ws h j).at q)), WV ws, ())) 80 rfl fun n hn k hkk => ?_
  unfold Lepactref06_block_2
  simp only [decide_eq_true_eq]
  by_cases e : n = 80
  · subst e
    rw [if_neg (by omega)]
    exact rAdd (roundsN ws h 80) h _ _ _ hk
  · have hn' : n < 80 := by omega
    have hk' := hkk hn'
    have e1 : w64 ((n : Int) + 1) = ((n + 1 : Nat) : Int) := by rw [w64_in (by omega) (by omega)]; omega
    rw [e1, if_pos (by omega)]
    rw [asIe 0 rfl, asIe 1 rfl, asIe 2 rfl, asIe 3 rfl, asIe 4 rfl]
    rw [WV_len, hl, Int.toNat_natCast, if_pos (by omega)]
    refine asW (by omega) ?_
    generalize hs : roundsN ws h n = s at *
    refine rTurn s.a 5 (by omega) (by omega) ?_
    refine rMix n hn' s.b s.c s.d ?_
    simp only [lt]
    rw [asIe 0 rfl, asIe 1 rfl, asIe 2 rfl, asIe 3 rfl]
    refine rTurn s.b 30 (by omega) (by omega) ?_
    rw [if_pos (show (0 : Nat) < List.length (agL .u32 5 (fun q => wi (s.at q))) from Nat.zero_lt_one)]
    have ea : wu32 (wu32 (wu32 (wi (rotl s.a 5) + wi (fAt n s.b s.c s.d + kAt n)) + wi (s.at 4)) + wi (ws.getD n 0)) = wi (rotl s.a 5 + fAt n s.b s.c s.d + s.e + kAt n + ws.getD n 0) := by
      rw [wi_add, wi_add, wi_add]
      refine congrArg (fun x : W32 => wi x) ?_
      show rotl s.a 5 + (fAt n s.b s.c s.d + kAt n) + s.e + ws.getD n 0 = _
      ac_rfl
    rw [ea]
    have es := setAll5 (fun q => wi (s.at q)) (fun q => wi ((roundsN ws h (n + 1)).at q))
    have en : roundsN ws h (n + 1) = stepS s (fAt n s.b s.c s.d) (kAt n) (ws.getD n 0) := by rw [← hs]; rfl
    rw [en] at es hk'
    refine (congrArg k ?_).mp hk'
    rw [← es]; rfl
/-- The words that are mixed. -/
theorem rSched (b : List UInt8) (h : St5) {K : Q34 → Prop} (k2) (hk : K (t5s (blockL h b))) :
    lp (Lepactref06_block_1 Xepactref06_turn Xepactref06_mix K k2) (((), (), (), 16, ()), t5s h, agL .u32 5 (fun _ => 0), WV (first b 16), ()) := by
  refine lp_at (fun j => (((), (), (), ((16 + j : Nat) : Int), ()), t5s h, agL .u32 5 (fun _ => 0), WV (wordsN b j), ())) 64 rfl fun n hn k hkk => ?_
  unfold Lepactref06_block_1
  have hl := wordsN_len b n
  simp only [decide_eq_true_eq, WV_len, hl]
  by_cases e : n = 64
  · subst e
    rw [if_neg (by omega), row5s]
    exact rRounds (wordsN b 64) (by rw [wordsN_len]) h _ _ hk
  · have hn' : n < 64 := by omega
    have hk' := hkk hn'
    have g : ∀ q : Nat, q ≤ 16 → w64 (((16 + n : Nat) : Int) - (q : Int)) = ((16 + n - q : Nat) : Int) := fun q hq => by rw [w64_in (by omega) (by omega)]; omega
    have g3 := g 3 (by omega)
    have g8 := g 8 (by omega)
    have g14 := g 14 (by omega)
    have g16 := g 16 (by omega)
    simp only [show ((3 : Nat) : Int) = 3 from rfl, show ((8 : Nat) : Int) = 8 from rfl, show ((14 : Nat) : Int) = 14 from rfl, show ((16 : Nat) : Int) = 16 from rfl] at g3 g8 g14 g16
    have e2 : w64 (((16 + n : Nat) : Int) + 1) = ((16 + (n + 1) : Nat) : Int) := by rw [w64_in (by omega) (by omega)]; omega
    rw [g3, g8, g14, g16, e2]
    simp only [Int.toNat_natCast]
    rw [if_pos (by omega), if_pos (by omega)]
    refine asW (by omega) ?_
    rw [if_pos (by omega)]
    refine asW (by omega) ?_
    rw [if_pos (by omega)]
    refine asW (by omega) ?_
    simp only [lt, wi_xor]
    rw [if_pos (by omega)]
    refine asW (by omega) ?_
    rw [wi_xor]
    refine rTurn _ 1 (by omega) (by omega) ?_
    rw [if_pos (room4 _ (by simp; omega)), WV_one, WV_app]
    refine (congrArg k ?_).mp hk'
    simp only [wordsN, next, hl]
theorem rBlock (b : List UInt8) (hb : b.length = 64) (h : St5) {K : Q34 → Prop} (hk : K (t5s (blockL h b))) : Xepactref06_block (t5s h) (BV b) K := by
  unfold Xepactref06_block Yepactref06_block
  rw [zeros5]
  refine lp_at (fun j => ((BV b, (), (), (), (j : Int), ()), t5s h, agL .u32 5 (fun _ => 0), WV (first b j), ())) 16 rfl fun n hn k hkk => ?_
  unfold Lepactref06_block_0
  simp only [decide_eq_true_eq, BV_len, WV_len, hb]
  by_cases e : n = 16
  · subst e
    rw [if_neg (by omega)]
    exact rSched b h _ hk
  · have hn' : n < 16 := by omega
    have hk' := hkk hn'
    have e4 : w64 (4 * (n : Int)) = ((4 * n : Nat) : Int) := by rw [w64_in (by omega) (by omega)]; omega
    have e5 : w64 (((4 * n : Nat) : Int) + 1) = ((4 * n + 1 : Nat) : Int) := by rw [w64_in (by omega) (by omega)]; omega
    have e6 : w64 (((4 * n : Nat) : Int) + 2) = ((4 * n + 2 : Nat) : Int) := by rw [w64_in (by omega) (by omega)]; omega
    have e7 : w64 (((4 * n : Nat) : Int) + 3) = ((4 * n + 3 : Nat) : Int) := by rw [w64_in (by omega) (by omega)]; omega
    have e1 : w64 ((n : Int) + 1) = ((n + 1 : Nat) : Int) := by rw [w64_in (by omega) (by omega)]; omega
    rw [e4, e5, e6, e7, e1]
    simp only [lt, Int.toNat_natCast]
    rw [if_pos (by omega), if_pos (by omega)]
    refine asB (by omega) ?_
    rw [if_pos (by omega)]
    refine asB (by omega) ?_
    rw [if_pos (by omega)]
    refine asB (by omega) ?_
    rw [if_pos (by omega)]
    refine asB (by omega) ?_
    have s24 := fun x : W32 => wi_shl x 24
    have s16 := fun x : W32 => wi_shl x 16
    have s8 := fun x : W32 => wi_shl x 8
    simp only [show ((2 : Int) ^ 24) = 16777216 from rfl, show ((2 : Int) ^ 16) = 65536 from rfl, show ((2 : Int) ^ 8) = 256 from rfl] at s24 s16 s8
    simp only [wu32_bi, s24, s16, s8, wi_or, word_or]
    rw [if_pos (room4 _ (by simp [first]; omega)), WV_one, WV_app]
    refine (congrArg k ?_).mp hk'
    rw [first_succ, wordAt, take4 b (4 * n) (by omega)]
end Go.Proofs.Ytpekhidbfjlboaa
end
section
set_option linter.unusedVariables false
set_option linter.unusedSimpArgs false
namespace Go.Proofs.Ytpekhidbfjlboaa
open Go Go.Proofs.Ytpekhidbfjlboaa.Eng Go.Proofs.Ytpekhidbfjlboaa.Pl
set_option linter.unusedVariables false
set_option linter.unusedSimpArgs false
set_option maxRecDepth 100000
set_option maxHeartbeats 2000000

theorem rBytes (s : St5) (u : Nat → UInt8) (hu : ∀ n, n < 20 → u n = UInt8.ofNat ((s.at (n / 4)).toNat / 2 ^ (24 - 8 * (n % 4)))) {K : Q24 → Prop} (k4) (h : K (t20 u)) :
    lp (Lepactref06_Sum_1 K k4) (((), (), (), 0, ()), agL .u8 20 (fun _ => 0), agL .u32 5 (fun q => wi (s.at q)), agL .u8 20 (fun _ => 0), ()) := by
  refine lp_at (fun j => (((), (), (), (j : Int), ()), agL .u8 20 (fun _ => 0), agL .u32 5 (fun q => wi (s.at q)), agL .u8 20 (part u j), ())) 20 rfl fun n hn k hk => ?_
  unfold Lepactref06_Sum_1
  simp only [decide_eq_true_eq]
  by_cases e : n = 20
  · subst e
    rw [if_neg (show ¬ ((20 : Nat) : Int) < 20 by omega)]
    rw [read20z u (part u 20) (fun _ => 0) (fun i hi => if_pos hi)]
    exact h
  · have hn' : n < 20 := by omega
    have hk' := hk hn'
    rw [← part_next] at hk'
    have e4 : w64 (Int.tdiv (n : Int) 4) = ((n / 4 : Nat) : Int) := by
      rw [Int.tdiv_eq_ediv_of_nonneg (by omega), w64_in (by omega) (by omega)]; omega
    have e5 : w64 (24 - w64 (8 * Int.tmod (n : Int) 4)) = ((24 - 8 * (n % 4) : Nat) : Int) := by
      rw [Int.tmod_eq_emod_of_nonneg (by omega), w64_in (n := 8 * ((n : Int) % 4)) (by omega) (by omega), w64_in (by omega) (by omega)]; omega
    have e1 : w64 ((n : Int) + 1) = ((n + 1 : Nat) : Int) := by rw [w64_in (by omega) (by omega)]; omega
    rw [e4, e5, e1]
    simp only [Int.toNat_natCast, Nat.mul_one, Nat.zero_add, lt]
    rw [if_pos (by omega), if_pos (by omega)]
    refine asI (by omega) ?_
    rw [if_neg (by omega), if_pos (by omega), if_pos (show (0 : Nat) < List.length (agL .u8 20 (part u n)) from Nat.zero_lt_one), if_pos (by show n + 1 ≤ 20; omega)]
    rw [show min (24 - 8 * (n % 4)) 32 = 24 - 8 * (n % 4) by omega]
    have e8 := wu8_shr (s.at (n / 4)).toNat (24 - 8 * (n % 4)) (Nat.lt_trans (wi_lt _) (by omega))
    rw [show Int.fdiv (wi (s.at (n / 4))) (2 ^ (24 - 8 * (n % 4))) = Int.fdiv ((s.at (n / 4)).toNat : Int) (2 ^ (24 - 8 * (n % 4))) from rfl, e8, ← hu n hn', agL_set (by omega)]
    exact hk'
theorem row_s0 : [Eng.V.agg [V.c (.int .u32 1732584193), V.c (.int .u32 4023233417), V.c (.int .u32 2562383102), V.c (.int .u32 271733878), V.c (.int .u32 3285377520)]] = agL .u32 5 (fun q => wi (s0.at q)) := by kernel_rfl
theorem rSum (b : List UInt8) (hb : b.length ≤ 100000) {K : Q24 → Prop} (h : K (t20 (digest b))) : Xepactref06_Sum (BV b) K := by
  unfold Xepactref06_Sum Yepactref06_Sum
  refine rPadded b hb ?_
  rw [zeros20, row_s0]
  have hlp : (padL b).length ≤ 1000000 := by simp [padL, be64]; omega
  have hm := padL_len b
  generalize hp : padL b = l at *
  refine lp_at (fun j => (((), (), (), ((64 * j : Nat) : Int), ()), agL .u8 20 (fun _ => 0), agL .u32 5 (fun q => wi ((blocksN l s0 j).at q)), (BV l, true, false), ())) (l.length / 64) rfl fun n hn k hk => ?_
  unfold Lepactref06_Sum_0
  simp only [decide_eq_true_eq, BV_len]
  by_cases e : n = l.length / 64
  · rw [if_neg (by omega), zeros20, e]
    exact rBytes _ (digest b) (fun n hn => by unfold digest sumS; rw [hp]) _ h
  · have hn' : n < l.length / 64 := by omega
    have hk' := hk hn'
    have e1 : w64 (((64 * n : Nat) : Int) + 64) = ((64 * (n + 1) : Nat) : Int) := by rw [w64_in (by omega) (by omega)]; omega
    rw [e1, if_pos (by omega)]
    rw [asIe 0 rfl, asIe 1 rfl, asIe 2 rfl, asIe 3 rfl, asIe 4 rfl]
    rw [if_pos (by omega), if_pos (by omega)]
    simp only [Int.toNat_natCast]
    rw [BV_cut, show 64 * (n + 1) - 64 * n = 64 by omega]
    refine rBlock _ (by simp; omega) (blocksN l s0 n) ?_
    rw [if_pos (show (0 : Nat) < List.length (agL .u32 5 (fun q => wi ((blocksN l s0 n).at q))) from Nat.zero_lt_one)]
    have es := setAll5 (fun q => wi ((blocksN l s0 n).at q)) (fun q => wi ((blocksN l s0 (n + 1)).at q))
    refine (congrArg k ?_).mp hk'
    rw [← es]; rfl
theorem rWords (d : Nat → UInt8) {K : Q34 → Prop} (h : K (t5 (wordsOf d))) : Xepactref06_Words (t20 d) K := by
  unfold Xepactref06_Words Yepactref06_Words
  rw [zeros5]
  refine lp_at (fun j => (((), (), (), (j : Int), ()), t20 d, agL .u32 5 (fun _ => 0), agL .u32 5 (wv d j), ())) 20 (by rw [wv_zero]; rfl) fun n hn k hk => ?_
  unfold Lepactref06_Words_0
  simp only [decide_eq_true_eq]
  by_cases e : n = 20
  · subst e
    rw [if_neg (by omega)]
    rw [read5z (wordsOf d) (wv d 20) (fun _ => 0) (wv_end d)]
    exact h
  · have hn' : n < 20 := by omega
    have hk' := hk hn'
    rw [← wv_next d n hn'] at hk'
    have e4 : w64 (Int.tdiv (n : Int) 4) = ((n / 4 : Nat) : Int) := by
      rw [Int.tdiv_eq_ediv_of_nonneg (by omega), w64_in (by omega) (by omega)]; omega
    have e1 : w64 ((n : Int) + 1) = ((n + 1 : Nat) : Int) := by rw [w64_in (by omega) (by omega)]; omega
    rw [e4, e1]
    simp only [Int.toNat_natCast, Nat.mul_one, Nat.zero_add, lt]
    rw [if_pos (by omega), if_pos (by omega)]
    refine asI (by omega) ?_
    rw [if_pos (by omega)]
    refine as20 hn' ?_
    have e8 := wi_shl (word (((dL d).drop (4 * (n / 4))).take (min 4 (n - 4 * (n / 4)))) 0) 8
    rw [show ((2 : Int) ^ 8) = 256 from rfl] at e8
    rw [show wv d n (n / 4) = wi (word (((dL d).drop (4 * (n / 4))).take (min 4 (n - 4 * (n / 4)))) 0) from rfl]
    simp only [e8, wu32_bi, wi_or]
    rw [if_pos (by omega), if_pos (show (0 : Nat) < List.length (agL .u32 5 (wv d n)) from Nat.zero_lt_one), if_pos (by show n / 4 + 1 ≤ 5; omega)]
    rw [agL_set (by omega)]
    exact hk'
def digs : List UInt8 := [48, 49, 50, 51, 52, 53, 54, 55, 56, 57, 97, 98, 99, 100, 101, 102]
theorem digs_cut : ∀ a : Fin 16, (digs.drop a.val).take (a.val + 1 - a.val) = [hexC a.val] := by decide
theorem dig_ex (n : Nat) (h : n < 16) : ByteArray.extract (ByteArray.mk #[(48 : UInt8), (49 : UInt8), (50 : UInt8), (51 : UInt8), (52 : UInt8), (53 : UInt8), (54 : UInt8), (55 : UInt8), (56 : UInt8), (57 : UInt8), (97 : UInt8), (98 : UInt8), (99 : UInt8), (100 : UInt8), (101 : UInt8), (102 : UInt8)]) n (n + 1) = S [hexC n] := by
  show ByteArray.extract (S digs) n (n + 1) = _
  rw [S_extract, digs_cut ⟨n, h⟩]
theorem rHex (d : Nat → UInt8) {K : ByteArray → Prop} (h : K (S (hexN d 20))) : Xepactref06_Hex (t20 d) K := by
  unfold Xepactref06_Hex Yepactref06_Hex
  refine lp_at (fun j => (((), ByteArray.mk #[], ByteArray.mk #[(48 : UInt8), (49 : UInt8), (50 : UInt8), (51 : UInt8), (52 : UInt8), (53 : UInt8), (54 : UInt8), (55 : UInt8), (56 : UInt8), (57 : UInt8), (97 : UInt8), (98 : UInt8), (99 : UInt8), (100 : UInt8), (101 : UInt8), (102 : UInt8)], S (hexN d j), (j : Int), ()), t20 d, ())) 20 rfl fun n hn k hk => ?_
  unfold Lepactref06_Hex_0
  simp only [decide_eq_true_eq]
  by_cases e : n = 20
  · subst e
    rw [if_neg (by omega)]
    exact h
  · have hn' : n < 20 := by omega
    have hk' := hk hn'
    have e1 : w64 ((n : Int) + 1) = ((n + 1 : Nat) : Int) := by rw [w64_in (by omega) (by omega)]; omega
    have hd := bi_lt (d n)
    have q1 : wu8 (Int.tdiv (bi (d n)) 16) = (((d n).toNat / 16 : Nat) : Int) := by
      rw [Int.tdiv_eq_ediv_of_nonneg (by unfold bi; omega), wu8_in (by unfold bi; omega) (by unfold bi; omega)]; unfold bi; omega
    have q2 : wu8 ((((d n).toNat / 16 : Nat) : Int) + 1) = (((d n).toNat / 16 + 1 : Nat) : Int) := by rw [wu8_in (by omega) (by omega)]; omega
    have q3 : Int.tmod (bi (d n)) 16 = (((d n).toNat % 16 : Nat) : Int) := by
      rw [Int.tmod_eq_emod_of_nonneg (by unfold bi; omega)]; unfold bi; omega
    have q4 : wu8 ((((d n).toNat % 16 : Nat) : Int) + 1) = (((d n).toNat % 16 + 1 : Nat) : Int) := by rw [wu8_in (by omega) (by omega)]; omega
    have hsz : ByteArray.size (ByteArray.mk #[(48 : UInt8), (49 : UInt8), (50 : UInt8), (51 : UInt8), (52 : UInt8), (53 : UInt8), (54 : UInt8), (55 : UInt8), (56 : UInt8), (57 : UInt8), (97 : UInt8), (98 : UInt8), (99 : UInt8), (100 : UInt8), (101 : UInt8), (102 : UInt8)]) = 16 := rfl
    rw [e1]
    simp only [Int.toNat_natCast, Nat.mul_one, Nat.zero_add, hsz]
    rw [if_pos (by omega), if_pos (by omega)]
    refine as20 hn' ?_
    rw [if_pos (by omega)]
    refine as20 hn' ?_
    simp only [lt, q1, q2, Int.toNat_natCast]
    rw [if_pos (by omega), if_pos (by omega), dig_ex _ (by omega)]
    rw [if_neg (by rw [S_size, S_size, hexN_len]; simp; omega), if_pos (by omega)]
    refine as20 hn' ?_
    rw [if_pos (by omega)]
    refine as20 hn' ?_
    simp only [q3, q4, Int.toNat_natCast]
    rw [if_pos (by omega), if_pos (by omega), dig_ex _ (by omega)]
    rw [S_append, if_neg (by rw [S_size, S_size, List.length_append, hexN_len]; simp; omega), S_append]
    refine (congrArg k ?_).mp hk'
    rw [hexN_snoc, List.append_assoc]; rfl
theorem lShaTells (b : List UInt8) (d : Nat → UInt8) : Xepactlaw06_ShaTells (BV b) (t20 d) (fun b => b = true) := by
  unfold Xepactlaw06_ShaTells Yepactlaw06_ShaTells
  refine sSmall ?_
  rw [BV_len]
  by_cases h : (b.length : Int) > 500
  · rw [if_pos (decide_eq_true h)]
  rw [if_neg (by rw [decide_eq_true_eq]; exact h), if_pos rfl]
  refine sSum _ [b] (partsC parts0 1 false _ (.inl rfl)) (by simp) (by rw [List.flatten_singleton]; omega) ?_
  refine rSum b (by omega) ?_
  rw [List.flatten_singleton]
  simp only [lt, beq_self_eq_true, Bool.and_true, if_true]
  refine sWords d ?_
  refine rWords d ?_
  simp only [beq_self_eq_true, Bool.and_true, if_true]
  refine sHex d ?_
  refine rHex d ?_
  exact beq_self_eq_true _
end Go.Proofs.Ytpekhidbfjlboaa
end
section
set_option linter.unusedVariables false
set_option linter.unusedSimpArgs false
namespace Go.Proofs.Ytpekhidbfjlboaa
open Go Go.Proofs.Ytpekhidbfjlboaa.Eng Go.Proofs.Ytpekhidbfjlboaa.Pl
theorem shaTells0 (a : List Int) (h : ∀ x ∈ a, (Lit.int .u8 x).wf = true) (d : Nat → UInt8) : Xepactlaw06_ShaTells (a.map fun x => V.c (.int .u8 x)) (t20 d) (fun b => b = true) := by
  rw [bytes_of a h]
  exact lShaTells _ d
theorem pureShaTells : PureShaTells := by
  intro a0 h0 a1 h1
  obtain ⟨d, e⟩ := dig_of a1 h1
  rw [show (akShaTells1.DV a1 : Q24) = t20 d from e]
  exact shaTells0 a0 h0.2 d
end Go.Proofs.Ytpekhidbfjlboaa
end
