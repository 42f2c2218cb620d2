/- What the functions come to in plain data, with proofs, and what that answers. -/
import Derived.Test.YtenaflbcnkalbaaGreatDoorJRightTells2
section
set_option linter.unusedVariables false
set_option linter.unusedSimpArgs false
namespace Go.Proofs.YtenaflbcnkalbaaGreatDoor
open Go Go.Proofs.YtenaflbcnkalbaaGreatDoor.Eng Go.Proofs.YtenaflbcnkalbaaGreatDoor.Pl
theorem rule_cons (r : List UInt8) : ruleP (44 :: r) = ⟨(parseL r).2.2.2.2.2.2 && true, (parseL r).2.2.2.2.2.1, ⟨(parseL r).1, (parseL r).2.1, (parseL r).2.2.1, (parseL r).2.2.2.1, (parseL r).2.2.2.2.1⟩⟩ := rfl
theorem rule_no (l : List UInt8) (h : l.head? ≠ some 44) : (ruleP l).ok = false := by
 unfold ruleP cutP
 rw [if_neg h]
 simp
theorem parse_len (l : List UInt8) : (parseL l).2.2.2.2.2.1.length ≤ l.length := by
 cases e : (parseL l).2.2.2.2.2.2
 ·rw [parse_bad _ e]; exact Nat.le_refl _
 ·obtain ⟨_, j, _, h1, h2⟩ := parse_good _ e
  rw [h2, List.length_drop]; omega
theorem rfootRules (so : Int) (sa : List UInt8) (wo : Int) (wa : List UInt8) (l : List UInt8) (hl : l.length ≤ 140737488351232) (h1 : sa.length ≤ 140737488351232) (h2 : wa.length ≤ 140737488351232) {K : Int × Bool × ByteArray × Int × Bool × ByteArray × Bool × Int × Int × Int × Int × Int × Int × Int × Int × Int × Int × Unit → Bool → Prop}
  (hz : ((ruleP l).ok = true → (ruleP (ruleP l).rest).ok = true → (ruleP (ruleP l).rest).rest = [] → False) → K ((0 : Int), false, ByteArray.mk #[], (0 : Int), false, ByteArray.mk #[], false, (0 : Int), (0 : Int), (0 : Int), (0 : Int), (0 : Int), (0 : Int), (0 : Int), (0 : Int), (0 : Int), (0 : Int), ()) false)
  (hk : (ruleP l).ok = true → (ruleP (ruleP l).rest).ok = true → (ruleP (ruleP l).rest).rest = [] → K (tupFt (Ft.chk ⟨so, false, sa, wo, true, wa, true, (ruleP l).r, (ruleP (ruleP l).rest).r⟩).1) (Ft.chk ⟨so, false, sa, wo, true, wa, true, (ruleP l).r, (ruleP (ruleP l).rest).r⟩).2) :
  (if ((↑(ByteArray.size (S l)) : Int) == (0 : Int)) = true then K ((0 : Int), false, ByteArray.mk #[], (0 : Int), false, ByteArray.mk #[], false, (0 : Int), (0 : Int), (0 : Int), (0 : Int), (0 : Int), (0 : Int), (0 : Int), (0 : Int), (0 : Int), (0 : Int), ()) false else if (0 : Int) ≤ (0 : Int) ∧ (0 : Int) < (↑(ByteArray.size (S l)) : Int) then
   (if (Eng.bAt (S l) (0 : Nat) != (44 : Int)) = true then K ((0 : Int), false, ByteArray.mk #[], (0 : Int), false, ByteArray.mk #[], false, (0 : Int), (0 : Int), (0 : Int), (0 : Int), (0 : Int), (0 : Int), (0 : Int), (0 : Int), (0 : Int), (0 : Int), ()) false else if (0 : Int) ≤ (↑(ByteArray.size (S l)) : Int) ∧ (↑(ByteArray.size (S l)) : Int) ≤ (↑(ByteArray.size (S l)) : Int) then
    (if (0 : Int) ≤ (1 : Int) ∧ (1 : Int) ≤ (↑(ByteArray.size (S l)) : Int) then
     Xepactref17_Parse (ByteArray.extract (S l) (1 : Nat) (Int.toNat (↑(ByteArray.size (S l)) : Int))) (fun r16 r17 r18 =>
      (if (!r18) = true then K ((0 : Int), false, ByteArray.mk #[], (0 : Int), false, ByteArray.mk #[], false, (0 : Int), (0 : Int), (0 : Int), (0 : Int), (0 : Int), (0 : Int), (0 : Int), (0 : Int), (0 : Int), (0 : Int), ()) false else if ((↑(ByteArray.size r17) : Int) == (0 : Int)) = true then K ((0 : Int), false, ByteArray.mk #[], (0 : Int), false, ByteArray.mk #[], false, (0 : Int), (0 : Int), (0 : Int), (0 : Int), (0 : Int), (0 : Int), (0 : Int), (0 : Int), (0 : Int), (0 : Int), ()) false else if (0 : Int) ≤ (0 : Int) ∧ (0 : Int) < (↑(ByteArray.size r17) : Int) then
       (if (Eng.bAt r17 (0 : Nat) != (44 : Int)) = true then K ((0 : Int), false, ByteArray.mk #[], (0 : Int), false, ByteArray.mk #[], false, (0 : Int), (0 : Int), (0 : Int), (0 : Int), (0 : Int), (0 : Int), (0 : Int), (0 : Int), (0 : Int), (0 : Int), ()) false else if (0 : Int) ≤ (↑(ByteArray.size r17) : Int) ∧ (↑(ByteArray.size r17) : Int) ≤ (↑(ByteArray.size r17) : Int) then
        (if (0 : Int) ≤ (1 : Int) ∧ (1 : Int) ≤ (↑(ByteArray.size r17) : Int) then
         Xepactref17_Parse (ByteArray.extract r17 (1 : Nat) (Int.toNat (↑(ByteArray.size r17) : Int))) (fun r19 r20 r21 =>
          (if (!r21) = true then K ((0 : Int), false, ByteArray.mk #[], (0 : Int), false, ByteArray.mk #[], false, (0 : Int), (0 : Int), (0 : Int), (0 : Int), (0 : Int), (0 : Int), (0 : Int), (0 : Int), (0 : Int), (0 : Int), ()) false else if (!ByteArray.toList r20 == ByteArray.toList (ByteArray.mk #[])) = true then K ((0 : Int), false, ByteArray.mk #[], (0 : Int), false, ByteArray.mk #[], false, (0 : Int), (0 : Int), (0 : Int), (0 : Int), (0 : Int), (0 : Int), (0 : Int), (0 : Int), (0 : Int), (0 : Int), ()) false else
           Xepactref18_checked (so, false, S sa, wo, true, S wa, true, r16.1, r16.2.1, r16.2.2.1, r16.2.2.2.1, r16.2.2.2.2.1, r19) (fun r22 r23 => K r22 r23)))
         else False) else False) else False))
     else False) else False) else False) := by
 cases l with
 | nil => exact ifT rfl (hz fun h => by rw [rule_no [] (by simp)] at h; cases h)
 | cons c r =>
  have hs : (↑(ByteArray.size (S (c :: r))) : Int) = (r.length : Int) + 1 := by rw [S_size]; rfl
  rw [drop1, bAt0, hs]
  simp only [List.length_cons] at hl
  simp only [beq_iff_eq, bne_iff_ne, ne_eq]
  refine ifF (by omega) (ifT (by omega) (ifC (fun e => hz fun h => ?_) fun e => ?_))
  ·rw [rule_no (c :: r) (fun h => by simp at h; subst h; exact e rfl)] at h; cases h
  ·have : c = 44 := u8_of (d := 44) (Classical.not_not.1 e)
   subst this
   rw [rule_cons] at hz hk
   have hp := parse_len r
   refine ifT (by omega) (ifT (by omega) (rruleParse r (by omega) ?_))
   generalize parseL r = q at *
   obtain ⟨q1, q2, q3, q4, q5, q6, q7⟩ := q
   simp only [Bool.and_true] at hz hk hp ⊢
   cases q7
   ·exact ifT rfl (hz fun h => by cases h)
   ·refine ifF (by simp) ?_
    cases q6 with
    | nil => exact ifT rfl (hz fun _ h => by rw [rule_no [] (by simp)] at h; cases h)
    | cons d t =>
     have hs : (↑(ByteArray.size (S (d :: t))) : Int) = (t.length : Int) + 1 := by rw [S_size]; rfl
     rw [drop1, bAt0, hs]
     simp only [List.length_cons] at hp
     refine ifF (by omega) (ifT (by omega) (ifC (fun e => hz fun _ h => ?_) fun e => ?_))
     ·rw [rule_no (d :: t) (fun h => by simp at h; subst h; exact e rfl)] at h; cases h
     ·have : d = 44 := u8_of (d := 44) (Classical.not_not.1 e)
      subst this
      rw [rule_cons] at hz hk
      refine ifT (by omega) (ifT (by omega) (rruleParse t (by omega) ?_))
      generalize parseL t = p at *
      obtain ⟨p1, p2, p3, p4, p5, p6, p7⟩ := p
      simp only [Bool.and_true] at hz hk ⊢
      cases p7
      ·exact ifT rfl (hz fun _ h => by cases h)
      ·refine ifF (by simp) ?_
       rw [S_toList]
       by_cases e6 : p6 = []
       ·subst e6
        have e0 : (ByteArray.mk #[]).toList = [] := S_toList []
        rw [e0]
        refine ifF (by simp) ?_
        exact rchecked ⟨so, false, sa, wo, true, wa, true, ⟨q1, q2, q3, q4, q5⟩, ⟨p1, p2, p3, p4, p5⟩⟩ h1 h2 (hk (by trivial) (by trivial) (by trivial))
       ·have e0 : (ByteArray.mk #[]).toList = [] := S_toList []
        rw [e0]
        exact ifT (by simp [e6]) (hz fun _ _ h => e6 h)
theorem rfootParse (l : List UInt8) (hl : l.length ≤ 140737488351232) {K} (h : K (tupFt (Ft.parse l).1) (Ft.parse l).2) : Xepactref18_Parse (S l) K := by
 unfold Xepactref18_Parse Yepactref18_Parse
 have hn := name_len l
 have ht := time_bd (nameP l).2.2
 refine rname l hl (rtime _ (by omega) ?_)
 rw [w64_in (n := 0 - (timeL (nameP l).2.2).1) (by omega) (by omega), Int.zero_sub]
 unfold Ft.parse at h
 have hu : usualP l = ⟨(nameP l).2.1 && (timeL (nameP l).2.2).2.2, (timeL (nameP l).2.2).2.1, -(timeL (nameP l).2.2).1, (nameP l).1⟩ := rfl
 rw [hu] at h
 simp only at h
 by_cases e1 : (nameP l).2.1 = true
 ·refine ifF (by simp [e1]) ?_
  by_cases e2 : (timeL (nameP l).2.2).2.2 = true
  ·rw [if_pos (by simp [e1, e2])] at h
   refine ifF (by simp [e2]) ?_
   clear hu
   generalize (timeL (nameP l).2.2).1 = n at h ht ⊢
   generalize (timeL (nameP l).2.2).2.1 = rest at h ht ⊢
   have e0 : (ByteArray.mk #[]).toList = [] := S_toList []
   by_cases e3 : rest = []
   ·rw [if_pos e3] at h
    refine ifT (by rw [S_toList, e0]; simp [e3]) (rchecked ⟨-n, false, (nameP l).1, 0, false, [], false, .z, .z⟩ (by simp only; omega) (by simp) h)
   ·rw [if_neg e3] at h
    have hn2 := name_len rest
    have ht2 := time_bd (nameP rest).2.2
    refine ifF (by rw [S_toList, e0]; simp [e3]) (rname rest (by omega) ?_)
    rw [w64_in (n := -n + 3600) (by omega) (by omega)]
    refine rtime _ (by omega) ?_
    by_cases e5 : (timeL (nameP rest).2.2).2.2 = true
    ·have hs : summerP (-n) rest = ⟨(nameP rest).2.1, (timeL (nameP rest).2.2).2.1, -(timeL (nameP rest).2.2).1, (nameP rest).1⟩ := if_pos e5
     rw [hs] at h
     simp only at h
     refine ifT e5 ?_
     by_cases e6 : (nameP rest).2.1 = true
     ·rw [if_pos e6] at h
      rw [w64_in (n := 0 - (timeL (nameP rest).2.2).1) (by omega) (by omega), Int.zero_sub]
      refine ifF (by simp [e6]) (rfootRules (-n) (nameP l).1 _ (nameP rest).1 _ (by omega) (by omega) (by omega) (fun hz => ?_) fun h1 h2 h3 => ?_)
      ·by_cases c1 : (ruleP (timeL (nameP rest).2.2).2.1).ok = true
       ·rw [if_pos c1] at h
        by_cases c2 : (ruleP (ruleP (timeL (nameP rest).2.2).2.1).rest).ok = true
        ·rw [if_pos c2, if_neg (fun c3 => hz c1 c2 c3)] at h; exact h
        ·rw [if_neg c2] at h; exact h
       ·rw [if_neg c1] at h; exact h
      ·rw [if_pos h1, if_pos h2, if_pos h3] at h; exact h
     ·rw [if_neg e6] at h
      exact ifT (by simpa using e6) h
    ·have hs : summerP (-n) rest = ⟨(nameP rest).2.1, (nameP rest).2.2, -n + 3600, (nameP rest).1⟩ := if_neg e5
     rw [hs] at h
     simp only at h
     have hsame := time_same _ e5
     rw [hsame]
     refine ifF e5 ?_
     by_cases e6 : (nameP rest).2.1 = true
     ·rw [if_pos e6] at h
      refine ifF (by simp [e6]) (rfootRules (-n) (nameP l).1 _ (nameP rest).1 _ (by omega) (by omega) (by omega) (fun hz => ?_) fun h1 h2 h3 => ?_)
      ·by_cases c1 : (ruleP (nameP rest).2.2).ok = true
       ·rw [if_pos c1] at h
        by_cases c2 : (ruleP (ruleP (nameP rest).2.2).rest).ok = true
        ·rw [if_pos c2, if_neg (fun c3 => hz c1 c2 c3)] at h; exact h
        ·rw [if_neg c2] at h; exact h
       ·rw [if_neg c1] at h; exact h
      ·rw [if_pos h1, if_pos h2, if_pos h3] at h; exact h
     ·rw [if_neg e6] at h
      exact ifT (by simpa using e6) h
  ·rw [if_neg (by simp [e2])] at h
   exact ifT (by simpa using e2) h
 ·rw [if_neg (by simp [e1])] at h
  exact ifT (by simpa using e1) h
end Go.Proofs.YtenaflbcnkalbaaGreatDoor
end
section
set_option linter.unusedVariables false
set_option linter.unusedSimpArgs false
namespace Go.Proofs.YtenaflbcnkalbaaGreatDoor
open Go Go.Proofs.YtenaflbcnkalbaaGreatDoor.Eng Go.Proofs.YtenaflbcnkalbaaGreatDoor.Pl
set_option maxRecDepth 100000
set_option maxHeartbeats 2000000
theorem room (n k : Nat) (hn : n ≤ 1000000000) (hk : k ≤ 64) : roomOk n k = true := by
 unfold roomOk; rw [decide_eq_true_eq]
 have : (n + 1000) * k ≤ 1000001000 * 64 := Nat.mul_le_mul (by omega) hk
 omega
theorem qEnd (n : Int) {K} (h : K (endD n)) : Xepactref03_End n K := by
 unfold Xepactref03_End Yepactref03_End
 refine rdate n ?_
 unfold endD at h
 by_cases e : -719162 ≤ n ∧ n ≤ 2932896
 ·rw [if_pos e]
  rw [decide_eq_true e, Bool.true_and] at h
  obtain ⟨⟨v1, v2, v3, v4, _⟩, _⟩ := num_date e.1 e.2
  rw [if_pos rfl]
  exact rdays _ _ v3 v4 h
 ·rw [if_neg e]
  rw [decide_eq_false e, Bool.false_and] at h
  rw [if_neg (by simp)]; exact h
/-- The day ahead. -/
def aheadG (ls : List LR) (k : Nat) : Int := if k = 0 then 729 else (ls.getD (k - 1) (0, 0, false)).1
theorem qWrong (t : Tb) (k : Nat) (hk : k < t.ls.length) (hl : t.ls.length ≤ 1000000) {K} (h : K (wrongL k t.ls[k] (aheadG t.ls k))) : Xepactref09_wrong (TLV t.ls, t.has, t.ex, ()) (k : Int) K := by
 unfold Xepactref09_wrong Yepactref09_wrong
 dsimp only
 rw [TLV_len, if_pos (by omega), Int.toNat_natCast]
 refine asL1 hk (asL2 hk (asL3 hk ?_))
 unfold wrongL at h
 by_cases h1 : 200 ≤ k
 ·rw [if_pos h1] at h; rw [if_pos (decide_eq_true (by omega))]; exact h
 rw [if_neg h1] at h; rw [if_neg (dneg (by omega))]
 by_cases h2 : (t.ls[k]).1 < 730
 ·rw [if_pos (.inl h2)] at h
  rw [if_pos (decide_eq_true h2)]; exact h
 rw [if_neg (dneg h2)]
 by_cases h3 : (t.ls[k]).1 ≥ 2932896
 ·rw [if_pos (.inr h3)] at h
  rw [if_pos (decide_eq_true h3)]; exact h
 rw [if_neg (dneg h3)]
 rw [if_neg (by omega)] at h
 refine qEnd _ ?_
 cases he : endD (t.ls[k]).1
 ·rw [if_pos (by rfl)]; rw [if_pos he] at h; exact h
 rw [if_neg (by simp)]
 rw [if_neg (by simp [he])] at h
 have last : ((t.ls[k]).2.1 = 1 ∨ (t.ls[k]).2.1 = -1) → (if decide ((k : Int) > 0) = true then
   (if 0 ≤ w64 ((k : Int) - 1) ∧ w64 ((k : Int) - 1) < (t.ls.length : Int) then Eng.asInt .i64 (getC (TLV t.ls) (Int.toNat (w64 ((k : Int) - 1))) 0) False fun n6 => if decide ((t.ls[k]).1 ≤ n6) = true then K 4 else K 0 else False) else K 0) := fun hs => by
  rw [if_neg (by omega)] at h
  unfold aheadG at h
  by_cases k0 : k = 0
  ·rw [if_neg (dneg (by omega))]
   rw [if_pos k0, if_neg (by omega)] at h; exact h
  ·have w1 : w64 ((k : Int) - 1) = ((k - 1 : Nat) : Int) := by rw [w64_in (by omega) (by omega)]; omega
   rw [if_pos (decide_eq_true (by omega)), w1, if_pos (by omega), Int.toNat_natCast]
   have hk' : k - 1 < t.ls.length := by omega
   refine asL1 hk' ?_
   rw [if_neg k0, getD_in _ _ _ hk'] at h
   by_cases h6 : (t.ls[k]).1 ≤ (t.ls[k - 1]).1
   ·rw [if_pos (decide_eq_true h6)]; rw [if_pos h6] at h; exact h
   ·rw [if_neg (dneg h6)]; rw [if_neg h6] at h; exact h
 by_cases s1 : (t.ls[k]).2.1 = 1
 ·rw [if_neg (by simp [s1])]; exact last (.inl s1)
 ·rw [if_pos (by simpa using s1)]
  by_cases s2 : (t.ls[k]).2.1 = -1
  ·rw [if_neg (by simp [s2])]; exact last (.inr s2)
  ·rw [if_pos (by simpa using s2)]
   rw [if_pos ⟨s1, s2⟩] at h; exact h
theorem qCheck (t : Tb) (hl : t.ls.length ≤ 1000000) {K} (h : K ((checkT t).1 : Int) (checkT t).2) : Xepactref09_Check (TLV t.ls, t.has, t.ex, ()) K := by
 unfold Xepactref09_Check Yepactref09_Check
 unfold checkT at h
 refine lp_ind (fun x => t.ls.length - x.1.2.2.2.2.1.toNat) (fun x => ∃ (j : Nat) (a : Int), j ≤ t.ls.length ∧ a = aheadG t.ls j ∧ 729 ≤ a ∧ a ≤ 2932896 ∧ checkG j a (t.ls.drop j) = checkG 0 729 t.ls ∧
  x = (((), 0, 0, (a + 1) * 86400, (j : Int), ()), (TLV t.ls, t.has, t.ex, ()), ())) ?_ ⟨0, 729, by omega, rfl, by omega, by omega, rfl, rfl⟩
 rintro x ⟨j, a, hj, hag, ha, ha', hc, rfl⟩ k hk
 unfold Lepactref09_Check_0
 dsimp only
 rw [TLV_len, Int.toNat_natCast]
 by_cases e : j < t.ls.length
 ·rw [if_pos (decide_eq_true (by omega))]
  refine qWrong t j e hl ?_
  rw [← hag]
  rw [List.drop_eq_getElem_cons e, checkG] at hc
  by_cases hw : wrongL j t.ls[j] a = 0
  ·rw [if_neg (by simp [hw]), if_pos (by omega)]
   refine asL1 e ?_
   rw [if_neg (by simp [hw])] at hc
   obtain ⟨_, q1, q2, _⟩ := wrongL_0 hw
   have w1 : w64 ((j : Int) + 1) = ((j + 1 : Nat) : Int) := by rw [w64_in (by omega) (by omega)]; omega
   have w2 : w64 (86400 * w64 ((t.ls[j]).1 + 1)) = ((t.ls[j]).1 + 1) * 86400 := by rw [w64_in (n := (t.ls[j]).1 + 1) (by omega) (by omega), w64_in (by omega) (by omega)]; omega
   simp only [lt, w1, w2]
   refine hk _ ⟨j + 1, _, e, ?_, by omega, by omega, hc, rfl⟩ (by show t.ls.length - Int.toNat ((j + 1 : Nat) : Int) < t.ls.length - Int.toNat (j : Int); omega)
   unfold aheadG
   rw [if_neg (by omega), Nat.add_sub_cancel, getD_in _ _ _ e]
  ·rw [if_pos (by simpa using hw)]
   rw [if_pos hw] at hc
   rw [← hc, if_pos hw] at h
   exact h
 ·rw [if_neg (dneg (by omega))]
  have : j = t.ls.length := by omega
  subst this
  rw [List.drop_length, checkG] at hc
  rw [← hc, if_neg (by simp)] at h
  unfold expB at h
  dsimp only at h
  have em : (if 63072000 > (a + 1) * 86400 then 63072000 else (a + 1) * 86400) = (a + 1) * 86400 := by split <;> omega
  rw [em] at h
  cases hh : t.has
  ·rw [hh] at h
   rw [if_neg (show ¬ (false = true) by simp)] at h
   rw [if_neg (show ¬ (false = true) by simp), if_pos (show (!false) = true from rfl)]
   by_cases h1 : t.ex = 0
   ·rw [if_neg (by simp [h1])]
    rw [if_neg (by simp [h1])] at h; exact h
   ·rw [if_pos (by simpa using h1)]
    rw [if_pos h1] at h; exact h
  ·rw [hh, if_pos rfl] at h
   rw [if_pos rfl]
   by_cases h1 : t.ex < (a + 1) * 86400
   ·rw [if_pos (decide_eq_true h1)]
    rw [if_pos (.inl h1)] at h; exact h
   rw [if_neg (dneg h1)]
   by_cases h2 : t.ex > 253402300799
   ·rw [if_pos (decide_eq_true h2)]
    rw [if_pos (.inr h2)] at h; exact h
   rw [if_neg (dneg h2), if_neg (by simp)]
   rw [if_neg (by omega)] at h; exact h
theorem qRightT (t : Tb) (hl : t.ls.length ≤ 1000000) {K} (h : K (rightT t)) : Xepactref09_Right (TLV t.ls, t.has, t.ex, ()) K := by
 unfold Xepactref09_Right Yepactref09_Right
 exact qCheck t hl h
end Go.Proofs.YtenaflbcnkalbaaGreatDoor
end
section
set_option linter.unusedVariables false
set_option linter.unusedSimpArgs false
namespace Go.Proofs.YtenaflbcnkalbaaGreatDoor
open Go Go.Proofs.YtenaflbcnkalbaaGreatDoor.Eng Go.Proofs.YtenaflbcnkalbaaGreatDoor.Pl
set_option maxRecDepth 100000
set_option maxHeartbeats 4000000
theorem qSub (a b : Int) (ha : i64r a) (hb : i64r b) {K : Int → Bool → Prop} (h1 : i64r (a - b) → K (a - b) true) (h2 : ¬ i64r (a - b) → K 0 false) : Xepactref01_Sub a b K := by
 unfold Xepactref01_Sub Yepactref01_Sub
 unfold i64r at *
 simp only [decide_eq_true_eq]
 by_cases b0 : b < 0
 ·have w1 : w64 (9223372036854775807 + b) = 9223372036854775807 + b := w64_in (by omega) (by omega)
  rw [if_pos b0, w1, if_neg (show ¬ b > 0 by omega)]
  by_cases c : a > 9223372036854775807 + b
  ·rw [if_pos c]; exact h2 (by omega)
  ·rw [if_neg c, w64_in (by omega) (by omega)]; exact h1 (by omega)
 ·rw [if_neg b0]
  by_cases b1 : b > 0
  ·have w1 : w64 (-9223372036854775808 + b) = -9223372036854775808 + b := w64_in (by omega) (by omega)
   rw [if_pos b1, w1]
   by_cases c : a < -9223372036854775808 + b
   ·rw [if_pos c]; exact h2 (by omega)
   ·rw [if_neg c, w64_in (by omega) (by omega)]; exact h1 (by omega)
  ·rw [if_neg b1, w64_in (by omega) (by omega)]; exact h1 (by omega)
def prevC (l : List Rec) (j : Nat) : Int := if j = 0 then 0 else (l.getD (j - 1) (0, 0)).2
theorem qAhead (l : List Rec) (j : Nat) (hj : j ≤ l.length) (hl : l.length ≤ 100000) {K : Int → Prop} (h : K (prevC l j)) : Xepactref12_ahead (RV l) (j : Int) K := by
 unfold Xepactref12_ahead Yepactref12_ahead
 unfold prevC at h
 rw [RV_len]
 by_cases j0 : j = 0
 ·rw [if_pos j0] at h
  rw [if_pos (by simp [j0])]; exact h
 ·rw [if_neg j0, getD_at _ _ _ (by omega)] at h
  have e1 : w64 ((j : Int) - 1) = ((j - 1 : Nat) : Int) := by rw [w64_in (by omega) (by omega)]; omega
  rw [if_neg (by simpa using j0), e1, if_pos (by omega), Int.toNat_natCast]
  exact asR2 (by omega) h
theorem asR1e {l : List Rec} {i : Nat} (h : i < l.length) {F : Prop} {K : Int → Prop} : Eng.asInt .i64 (getC (RV l) i 0) F K = K (l[i]).1 := by
 have : getC (RV l) i 0 = some (.c (.int .i64 (l[i]).1)) := by simp [getC, RV, eRec, V.cells, h]
 rw [this]; simp [Eng.asInt]
theorem qRecCheck (l : List Rec) (hi : recI l) (hlen : l.length ≤ 100000) {K : Int → Int → Prop} (h : ∀ n, K n (recE l)) : Xepactref12_Check (RV l) K := by
 unfold Xepactref12_Check Yepactref12_Check
 refine lp_ind (fun x => (l.length : Nat) - x.1.2.2.2.1.toNat) (fun x => ∃ (j : Nat), j ≤ l.length ∧ x = ((RV l, (0 : Int), (0 : Int), (j : Int), ()), ()) ∧ recErr j (prevR (-2419199, 0) l j) (l.drop j) = recE l ∧ (0 < j → 0 ≤ (prevR (-2419199, 0) l j).1)) ?_ ⟨0, by omega, rfl, rfl, by omega⟩
 rintro x ⟨j, hj, rfl, hok, hps⟩ k hk
 unfold Lepactref12_Check_0
 simp only [decide_eq_true_eq, RV_len]
 by_cases e : j = l.length
 ·rw [if_neg (by omega)]
  have : recE l = 0 := by rw [← hok, e, List.drop_length]; rfl
  rw [this] at h
  exact h _
 ·have hj' : j < l.length := by omega
  obtain ⟨hc1, hc2⟩ := hi l[j] (List.getElem_mem hj')
  have hx : 0 ≤ (j : Int) ∧ (j : Int) < (l.length : Int) := by omega
  rw [Int.toNat_natCast, if_pos (by omega), if_pos hx]
  refine asR2 hj' (qAhead l j hj hlen ?_)
  rw [if_pos hx]
  refine asR2 hj' (qAhead l j hj hlen ?_)
  have hbp : (prevR (-2419199, 0) l j).2 = prevC l j := by
   unfold prevR prevC; by_cases j0 : j = 0
   ·rw [if_pos j0, if_pos j0]
   ·rw [if_neg j0, if_neg j0]
  have hb0 : 0 < j → (prevR (-2419199, 0) l j).1 = (l[j - 1]'(by omega)).1 := fun h0 => by
   unfold prevR; rw [if_neg (by omega), getD_at _ _ _ (by omega)]
  have hbi : i64r (prevR (-2419199, 0) l j).2 ∧ (0 < j → i64r (prevR (-2419199, 0) l j).1) := by
   unfold prevR
   by_cases j0 : j = 0
   ·rw [if_pos j0]; exact ⟨by unfold i64r; decide, by omega⟩
   ·rw [if_neg j0, getD_at _ _ _ (by omega)]
    have := hi _ (List.getElem_mem (show j - 1 < l.length by omega))
    exact ⟨this.2, fun _ => this.1⟩
  have hnx : prevR (-2419199, 0) l (j + 1) = l[j] := by
   unfold prevR; rw [if_neg (by omega), Nat.add_sub_cancel, getD_at _ _ _ hj']
  have hd : l.drop j = l[j] :: l.drop (j + 1) := List.drop_eq_getElem_cons hj'
  rw [hd, recErr] at hok
  have hre : (l.drop (j + 1)).isEmpty = decide (j + 1 = l.length) := by
   rw [Bool.eq_iff_iff, List.isEmpty_iff, List.drop_eq_nil_iff, decide_eq_true_eq]; omega
  have hre' : ∀ s : Int, ((decide (s = 0) && (l.drop (j + 1)).isEmpty) = true) ↔ (s = 0 ∧ j + 1 = l.length) := fun s => by
   rw [hre, Bool.and_eq_true, decide_eq_true_eq, decide_eq_true_eq]
  have hre'' : ∀ s : Int, ((decide (s = 0) && (l.drop (j + 1)).isEmpty) = false) ↔ ¬ (s = 0 ∧ j + 1 = l.length) := fun s => by
   rw [← hre' s, Bool.not_eq_true]
  simp only [hre', hre''] at hok
  rw [← hnx] at hok
  have e1 : w64 ((j : Int) + 1) = ((j + 1 : Nat) : Int) := by rw [w64_in (by omega) (by omega)]; omega
  have e2 : w64 ((l.length : Int) - 1) = (l.length : Int) - 1 := w64_in (by omega) (by omega)
  rw [← hbp]
  have hcc : prevR (-2419199, 0) l (j + 1) = l[j] := hnx
  generalize prevR (-2419199, 0) l j = b at *
  have c8 : 200 < j → K (j : Int) 8 := fun q => by rw [if_pos q] at hok; rw [← hok] at h; exact h _
  have c9 : ¬ 200 < j ∧ (l[j]).1 < 0 → K (j : Int) 9 := fun q => by rw [hcc, if_neg q.1, if_pos q.2] at hok; rw [← hok] at h; exact h _
  have c6 : ¬ 200 < j ∧ ¬ (l[j]).1 < 0 ∧ ¬ ((l[j]).2 - b.2 = 0 ∧ j + 1 = l.length) ∧ (l[j]).2 - b.2 ≠ 1 ∧ (l[j]).2 - b.2 ≠ -1 → K (j : Int) 6 := fun q => by
   rw [hcc, if_neg q.1, if_neg q.2.1, if_pos q.2.2] at hok; rw [← hok] at h; exact h _
  have c7 : ¬ 200 < j ∧ ¬ (l[j]).1 < 0 ∧ (((l[j]).2 - b.2 = 0 ∧ j + 1 = l.length) ∨ (l[j]).2 - b.2 = 1 ∨ (l[j]).2 - b.2 = -1) ∧ 0 < j ∧ ((((l[j]).2 - b.2 = 0 ∧ j + 1 = l.length) ∧ (l[j]).1 - b.1 < 0) ∨ (¬ ((l[j]).2 - b.2 = 0 ∧ j + 1 = l.length) ∧ (l[j]).1 - b.1 < 2419199)) → K (j : Int) 7 := fun q => by
   obtain ⟨q1, q2, q3, q4, q5⟩ := q
   rw [hcc, if_neg q1, if_neg q2, if_neg (by omega), if_pos] at hok
   ·rw [← hok] at h; exact h _
   ·refine ⟨q4, ?_⟩
    rcases q5 with q5 | q5
    ·rw [if_pos q5.1]; exact q5.2
    ·rw [if_neg q5.1]; exact q5.2
  have good : (j ≤ 200 ∧ 0 ≤ (l[j]).1 ∧ (((l[j]).2 - b.2 = 0 ∧ j + 1 = l.length) ∨ (l[j]).2 - b.2 = 1 ∨ (l[j]).2 - b.2 = -1) ∧ (j = 0 ∨ (((l[j]).2 - b.2 = 0 ∧ j + 1 = l.length) ∧ (l[j]).1 - b.1 ≥ 0) ∨ (¬ ((l[j]).2 - b.2 = 0 ∧ j + 1 = l.length) ∧ (l[j]).1 - b.1 ≥ 2419199))) →
    k ((RV l, (0 : Int), (0 : Int), ((j + 1 : Nat) : Int), ()), ()) := fun hg => by
   obtain ⟨q1, q2, q3, q4⟩ := hg
   rw [if_neg (by omega), hcc, if_neg (by omega), if_neg (by omega), if_neg] at hok
   ·refine hk _ ⟨j + 1, by omega, rfl, by rw [hcc]; exact hok, fun _ => by rw [hcc]; exact q2⟩ ?_
    show l.length - ((j + 1 : Nat) : Int).toNat < l.length - ((j : Nat) : Int).toNat
    omega
   ·rintro ⟨r1, r2⟩
    rcases q4 with q4 | q4 | q4
    ·omega
    ·rw [if_pos q4.1] at r2; omega
    ·rw [if_neg q4.1] at r2; omega
  clear hok hk h hd hre hre' hre'' hnx hcc
  rw [e1, e2]
  have hx1 := hx.1
  have hx2 := hx.2
  simp only [hx1, hx2, and_self, if_true, asR1e hj']
  have ew : 0 < j → 0 ≤ (l[j]).1 → w64 ((l[j]).1 - b.1) = (l[j]).1 - b.1 := fun h1 h2 => by
   have := hps h1
   have := hbi.2 h1
   unfold i64r at *
   exact w64_in (by omega) (by omega)
  by_cases j0 : j = 0
  ·have j1 : ¬ ((j : Int) > 0) := by omega
   simp only [j1, if_false]
   refine qSub _ b.2 hc2 hbi.1 (fun hf => ?_) fun hf => ?_
   ·simp only [if_true, beq_iff_eq, Bool.not_eq_true', beq_eq_false_iff_ne, ne_eq, bne_iff_ne, not_true, if_false, Bool.not_true, Bool.false_eq_true]
    repeat' split
    all_goals first
     |(refine c8 ?_; omega)
     |(refine c9 ?_; omega)
     |(refine c6 ?_; omega)
     |(refine good ?_; omega)
   ·simp only [if_true, if_false, Bool.not_false, Bool.false_eq_true, beq_iff_eq, Bool.not_eq_true', beq_eq_false_iff_ne, ne_eq]
    unfold i64r at hf
    repeat' split
    all_goals first
     |(refine c8 ?_; omega)
     |(refine c9 ?_; omega)
     |(refine c6 ?_; omega)
     |(exfalso; unfold i64r at *; omega)
  ·have j1 : (j : Int) > 0 := by omega
   have e3 : w64 ((j : Int) - 1) = ((j - 1 : Nat) : Int) := by rw [w64_in (by omega) (by omega)]; omega
   have x1 : (0 : Int) ≤ ((j - 1 : Nat) : Int) := by omega
   have x2 : ((j - 1 : Nat) : Int) < (l.length : Int) := by omega
   simp only [j1, if_true, e3, x1, x2, and_self, Int.toNat_natCast, asR1e (show j - 1 < l.length by omega), ← hb0 (show 0 < j by omega)]
   refine qSub _ b.2 hc2 hbi.1 (fun hf => ?_) fun hf => ?_
   ·simp only [if_true, beq_iff_eq, Bool.not_eq_true', beq_eq_false_iff_ne, ne_eq, bne_iff_ne, not_true, if_false, Bool.not_true, Bool.false_eq_true]
    repeat' split
    all_goals first
     |(refine c8 ?_; omega)
     |(refine c9 ?_; omega)
     |(refine c6 ?_; omega)
     |(refine c7 ?_; omega)
     |(refine good ?_; omega)
     |(refine c7 ?_; rw [ew (by omega) (by omega)] at *; omega)
     |(refine good ?_; rw [ew (by omega) (by omega)] at *; omega)
   ·simp only [if_true, if_false, Bool.not_false, Bool.false_eq_true, beq_iff_eq, Bool.not_eq_true', beq_eq_false_iff_ne, ne_eq]
    unfold i64r at hf
    repeat' split
    all_goals first
     |(refine c8 ?_; omega)
     |(refine c9 ?_; omega)
     |(refine c6 ?_; omega)
     |(exfalso; unfold i64r at *; omega)
end Go.Proofs.YtenaflbcnkalbaaGreatDoor
end
section
set_option linter.unusedVariables false
set_option linter.unusedSimpArgs false
namespace Go.Proofs.YtenaflbcnkalbaaGreatDoor
open Go Go.Proofs.YtenaflbcnkalbaaGreatDoor.Eng Go.Proofs.YtenaflbcnkalbaaGreatDoor.Pl
set_option maxRecDepth 100000
set_option maxHeartbeats 4000000
theorem qRecRight (l : List Rec) (hi : recI l) (hlen : l.length ≤ 100000) {K : Bool → Prop} (h : K (recRight l)) : Xepactref12_Right (RV l) K := by
 unfold Xepactref12_Right Yepactref12_Right
 refine qRecCheck l hi hlen fun n => ?_
 have := recErr_ok l 0 (-2419199, 0)
 unfold recE
 unfold recRight at h
 cases hb : recOk 0 (-2419199, 0) l
 ·rw [hb] at h this
  have : recErr 0 (-2419199, 0) l ≠ 0 := fun e => by simpa using this.1 e
  rw [show (recErr 0 (-2419199, 0) l == 0) = false by simpa using this]; exact h
 ·rw [hb] at h this
  rw [this.2 rfl]; exact h
theorem lastExp_prev (l : List Rec) (h : 0 < l.length) : lastExp l = ((l[l.length - 1]).2 == prevC l (l.length - 1)) := by
 unfold lastExp prevC
 have g1 := getD_at l (l.length - 1) (0, 0) (by omega)
 by_cases e2 : l.length = 1
 ·have g0 : l.getD 0 (0, 0) = l[l.length - 1]'(by omega) := by rw [← g1]; rw [e2]
  rw [g0, if_pos (by omega), show decide (l.length = 1) = true by simpa using e2, show decide (1 < l.length) = false by simp; omega]
  simp
 ·rw [if_neg (by omega), show l.length - 1 - 1 = l.length - 2 by omega, g1]
  rw [show decide (l.length = 1) = false by simpa using e2, show decide (1 < l.length) = true by simp; omega]
  simp
theorem qLeaps (l : List Rec) (hl : l.length ≤ 100000) {K : Int → Prop} (h : K ((leapsR l).length : Int)) : Xepactref12_leaps (RV l) K := by
 unfold Xepactref12_leaps Yepactref12_leaps
 rw [RV_len]
 rw [leapsR_len] at h
 by_cases e : l.length = 0
 ·rw [if_neg (dneg (by omega))]
  have : (if lastExp l = true then l.length - 1 else l.length) = l.length := by split <;> omega
  rw [this] at h; exact h
 ·have e1 : w64 ((l.length : Int) - 1) = ((l.length - 1 : Nat) : Int) := by rw [w64_in (by omega) (by omega)]; omega
  rw [if_pos (decide_eq_true (by omega)), e1, if_pos (by omega), Int.toNat_natCast]
  refine asR2 (by omega) (qAhead l _ (by omega) hl ?_)
  rw [lastExp_prev l (by omega)] at h
  cases hb : ((l[l.length - 1]'(by omega)).2 == prevC l (l.length - 1))
  ·rw [hb, if_neg (by simp)] at h
   rw [if_neg (by simp)]; exact h
  ·rw [hb, if_pos rfl] at h
   rw [if_pos rfl]; exact h
theorem qExpiry (l : List Rec) (hl : l.length ≤ 100000) {K : Int → Bool → Prop} (h : ∀ n, K n (lastExp l)) : Xepactref12_Expiry (RV l) K := by
 unfold Xepactref12_Expiry Yepactref12_Expiry
 refine qLeaps l hl ?_
 rw [RV_len, leapsR_len]
 cases e : lastExp l
 ·rw [e] at h
  rw [if_neg (by simp : ¬ (false = true)), if_pos (by simp)]
  exact h _
 ·have hne : 0 < l.length := by
   cases l with
   | nil => simp [lastExp] at e
   | cons a r => simp
  rw [e] at h
  rw [if_pos (rfl : true = true), if_neg (by simp; omega), if_pos (by omega), Int.toNat_natCast]
  exact asR1 (by omega) (h _)
theorem leaps_get (l : List Rec) (i : Nat) (hi : i < (leapsR l).length) (hi' : i < l.length) : (leapsR l)[i] = l[i] := by
 unfold leapsR
 by_cases e : lastExp l = true
 ·simp only [e, if_true, List.getElem_take]
 ·simp only [e, if_false]; rfl
theorem qSum (l : List Rec) (hs : Srt l) (hl : l.length ≤ 100000) (a : Int) {K : Int → Prop} (h : K (sumR l a)) : Xepactref12_Sum (RV l) a K := by
 unfold Xepactref12_Sum Yepactref12_Sum
 rw [sumR_sm] at h
 have hll := leapsR_len l
 have hle := fl_le (fun c : Rec => decide (c.1 > a)) (leapsR l)
 have hsp := fl_spec (fun c : Rec => decide (c.1 > a)) (leapsR l)
 have hss := srt_leaps hs
 generalize hf : Pl.fl (fun c : Rec => decide (c.1 > a)) (leapsR l) = f at *
 have hll2 : (leapsR l).length ≤ l.length := by rw [hll]; split <;> omega
 refine lp_at (fun j => ((RV l, a, (0 : Int), sm (leapsR l) (min j f), (j : Int), ()), ())) (leapsR l).length (by simp [sm]) fun j hj k hk => ?_
 unfold Lepactref12_Sum_0
 dsimp only
 refine qLeaps l hl ?_
 rw [RV_len]
 by_cases e : j < (leapsR l).length
 ·have hjl : j < l.length := by omega
  have e1 : w64 ((j : Int) + 1) = ((j + 1 : Nat) : Int) := by rw [w64_in (by omega) (by omega)]; omega
  rw [if_pos (decide_eq_true (by omega)), if_pos (by omega), Int.toNat_natCast]
  refine asR1 hjl ?_
  have hk' := hk e
  have hg := leaps_get l j e hjl
  by_cases c : j < f
  ·have := (hsp j e).1 c
   rw [hg] at this
   rw [if_pos (decide_eq_true (by simpa using this)), if_pos (by omega)]
   refine asR2 hjl ?_
   rw [e1]
   have : sm (leapsR l) (min (j + 1) f) = (l[j]).2 := by
    rw [show min (j + 1) f = j + 1 by omega]
    unfold sm; rw [if_neg (by omega), Nat.add_sub_cancel, getD_at _ _ _ e, hg]
   rw [this] at hk'; exact hk'
  ·have hfl : f < (leapsR l).length := by omega
   have h2 := (hsp f hfl).2 rfl
   have h3 := hss f j hfl e (by omega)
   rw [hg] at h3
   simp only [decide_eq_true_eq] at h2
   rw [if_neg (dneg (by omega)), e1]
   rw [show min (j + 1) f = min j f by omega] at hk'
   exact hk'
 ·rw [if_neg (dneg (by omega))]
  rw [show min j f = f by omega]; exact h
theorem qNames (z : Zn) (hl : z.ty.length ≤ 100000) {K : List V → Bool → Bool → Prop} (h : K (NV (z.ty.map (·.2.2))) true false) : Xepactref16_names (tupZ z) K := by
 show Xepactref16_names (TV z.ty, RV z.tr, RV z.lp, S z.ft, z.v, ()) K
 unfold Xepactref16_names Yepactref16_names
 refine lp_at (fun j => (((), (), (), (j : Int), ()), (TV z.ty, RV z.tr, RV z.lp, S z.ft, z.v, ()), NV ((z.ty.take j).map (·.2.2)), ())) z.ty.length rfl fun j hj k hk => ?_
 unfold Lepactref16_names_0
 dsimp only
 rw [TV_len, NV_len, List.length_map, List.length_take, Nat.min_eq_left hj, Int.toNat_natCast]
 by_cases e : j < z.ty.length
 ·have e1 : w64 ((j : Int) + 1) = ((j + 1 : Nat) : Int) := by rw [w64_in (by omega) (by omega)]; omega
  rw [if_pos (decide_eq_true (by omega)), if_pos (by omega)]
  refine asT3 e ?_
  rw [List.length_singleton, if_pos (room16 _ (by omega)), e1]
  have := hk e
  rw [List.take_succ_eq_append_getElem e, List.map_append] at this
  simpa [NV] using this
 ·have : j = z.ty.length := by omega
  subst this
  rw [if_neg (dneg (by omega))]
  rw [List.take_length]; exact h
end Go.Proofs.YtenaflbcnkalbaaGreatDoor
end
section
set_option linter.unusedVariables false
set_option linter.unusedSimpArgs false
namespace Go.Proofs.YtenaflbcnkalbaaGreatDoor
open Go Go.Proofs.YtenaflbcnkalbaaGreatDoor.Eng Go.Proofs.YtenaflbcnkalbaaGreatDoor.Pl
set_option maxRecDepth 100000
set_option maxHeartbeats 4000000
def NI (ns : List Int) : List V := ns.map fun n => .c (.int .i64 n)
theorem NI_len (ns : List Int) : (NI ns).length = ns.length := by simp [NI]
theorem asNI {ns : List Int} {i : Nat} (h : i < ns.length) {F : Prop} {K : Int → Prop} (hk : K ns[i]) : Eng.asInt .i64 (getC (NI ns) i 0) F K := by
 have : getC (NI ns) i 0 = some (.c (.int .i64 ns[i])) := by simp [getC, NI, V.cells, h]
 rw [this]; simpa [Eng.asInt] using hk
theorem S_eqB (a b : List UInt8) : (ByteArray.toList (S a) == ByteArray.toList (S b)) = (a == b) := by rw [S_toList, S_toList]
theorem qPool (l : List (List UInt8)) (hl : l.length ≤ 1000) (hs : ∀ s ∈ l, s.length ≤ 10000) {K : ByteArray → Bool → List V → Bool → Bool → Prop}
  (h : ∀ p at' o z, p.size ≤ 100000000 → (l.all abbrL && decide (poolN [] l ≤ 256)) = true → p.size = poolN [] l → K p true at' o z)
  (h' : (l.all abbrL && decide (poolN [] l ≤ 256)) = false → ∀ p at' o z, K p false at' o z) : Xepactref14_Pool (NV l) K := by
 unfold Xepactref14_Pool Yepactref14_Pool
 have hle := poolN_le l [] hs
 refine lp_ind (fun x => l.length - x.1.2.2.2.2.2.2.1.toNat) (fun x => ∃ (j : Nat) (p : List UInt8) (ns : List Int), j ≤ l.length ∧ x = ((NV l, ByteArray.mk #[], (), false, S p, (), (j : Int), ()), NI ns, ()) ∧
  (l.take j).all abbrL = true ∧ p.length + poolN (l.take j) (l.drop j) = poolN [] l ∧ ns.length = j ∧ ∀ n ∈ ns, 0 ≤ n) ?_ ⟨0, [], [], by omega, rfl, rfl, by simp, rfl, by simp⟩
 rintro x ⟨j, p, ns, hj, rfl, hall, hp, hat, hnn⟩ k hk
 unfold Lepactref14_Pool_0
 dsimp only
 rw [NV_len, Int.toNat_natCast]
 by_cases e : j = l.length
 ·rw [if_neg (dneg (by omega)), S_size]
  rw [e, List.take_length] at hall
  rw [e, List.drop_length] at hp
  have hp' : p.length = poolN [] l := by simpa [poolN] using hp
  by_cases h2 : (p.length : Int) > 256
  ·rw [if_pos (decide_eq_true h2)]
   exact h' (by rw [hall]; simp; omega) _ _ _ _
  ·rw [if_neg (dneg h2)]
   exact h _ _ _ _ (by rw [S_size]; omega) (by rw [hall]; simp; omega) (by rw [S_size]; exact hp')
 ·have hj' : j < l.length := by omega
  rw [if_pos (decide_eq_true (by omega)), if_pos (by omega)]
  refine asN hj' ?_
  have hsl := hs l[j] (List.getElem_mem hj')
  refine rabbr _ (by omega) ?_
  have hd' : l.drop j = l[j] :: l.drop (j + 1) := List.drop_eq_getElem_cons hj'
  have ht : l.take (j + 1) = l.take j ++ [l[j]] := List.take_succ_eq_append_getElem hj'
  have hmem := List.getElem_mem hj'
  rw [hd', poolN] at hp
  cases ha : abbrL l[j]
  ·rw [if_pos (show (!false) = true from rfl)]
   refine h' ?_ _ _ _ _
   have : l.all abbrL = false := by
    rw [Bool.eq_false_iff]; intro h; rw [List.all_eq_true.1 h _ hmem] at ha; cases ha
   rw [this]; rfl
  ·rw [if_neg (by simp)]
   have hall' : (l.take (j + 1)).all abbrL = true := by rw [ht, List.all_append, hall]; simp [ha]
   have e1 : w64 ((j : Int) + 1) = ((j + 1 : Nat) : Int) := by rw [w64_in (by omega) (by omega)]; omega
   have hps : p.length ≤ 100000000 := by omega
   have step : ∀ (p' : List UInt8) (v : Int), 0 ≤ v → p'.length + poolN (l.take (j + 1)) (l.drop (j + 1)) = poolN [] l → k ((NV l, ByteArray.mk #[], (), false, S p', (), ((j + 1 : Nat) : Int), ()), NI ns ++ [.c (.int .i64 v)], ()) := fun p' v hv hq => by
    refine hk _ ⟨j + 1, p', ns ++ [v], by omega, by simp [NI], hall', hq, by simp [hat], ?_⟩ ?_
    ·intro n hn
     rcases List.mem_append.1 hn with hn | hn
     ·exact hnn n hn
     ·simp at hn; omega
    ·show l.length - ((j + 1 : Nat) : Int).toNat < l.length - ((j : Nat) : Int).toNat
     omega
   refine lp_ind (fun x => j - x.1.2.2.2.2.2.2.2.2.1.toNat) (fun x => ∃ (i : Nat) (a : Int), i ≤ j ∧ x = ((NV l, ByteArray.mk #[], (), false, S p, (), (j : Int), a, (i : Int), ()), NI ns, ()) ∧
    ((a = -1 ∧ l[j] ∉ l.take i) ∨ (0 ≤ a ∧ l[j] ∈ l.take i))) ?_ ⟨0, -1, by omega, rfl, .inl ⟨rfl, by simp⟩⟩
   rintro x ⟨i, a, hi, rfl, hm⟩ k' hk'
   unfold Lepactref14_Pool_1
   dsimp only
   rw [NV_len, NI_len, Int.toNat_natCast, Int.toNat_natCast]
   by_cases ei : i < j
   ·have e2 : w64 ((i : Int) + 1) = ((i + 1 : Nat) : Int) := by rw [w64_in (by omega) (by omega)]; omega
    have hti : l.take (i + 1) = l.take i ++ [l[i]] := List.take_succ_eq_append_getElem (by omega)
    have dec : j - (((i + 1 : Nat) : Int)).toNat < j - ((i : Nat) : Int).toNat := by omega
    rw [if_pos (decide_eq_true (by omega)), if_pos (by omega)]
    refine asN (by omega) ?_
    rw [if_pos (by omega)]
    refine asN hj' ?_
    rw [S_eqB, e2]
    by_cases hq : l[i] = l[j]
    ·rw [if_pos (by simpa using hq), if_pos (by omega)]
     refine asNI (by omega) ?_
     refine hk' _ ⟨i + 1, _, ei, rfl, .inr ⟨hnn _ (List.getElem_mem _), by rw [hti, hq]; simp⟩⟩ dec
    ·rw [if_neg (by simpa using hq)]
     refine hk' _ ⟨i + 1, a, ei, rfl, ?_⟩ dec
     rcases hm with ⟨m1, m2⟩ | ⟨m1, m2⟩
     ·exact .inl ⟨m1, by rw [hti, List.mem_append, List.mem_singleton]; exact fun h => h.elim m2 fun h => hq h.symm⟩
     ·exact .inr ⟨m1, by rw [hti]; exact List.mem_append_left _ m2⟩
   ·have : i = j := by omega
    subst this
    rw [if_neg (dneg (by omega))]
    rcases hm with ⟨m1, m2⟩ | ⟨m1, m2⟩
    ·have hc : (l.take i).contains l[i] = false := by rw [Bool.eq_false_iff, ne_eq, List.contains_iff_mem]; exact m2
     rw [hc, if_neg (by simp)] at hp
     rw [if_pos (decide_eq_true (by omega)), if_pos (by omega)]
     refine asN hj' ?_
     have es3 : S p ++ S l[i] ++ ByteArray.mk #[(0 : UInt8)] = S (p ++ l[i] ++ [0]) := by
      rw [S_append p l[i]]; exact S_append _ [0]
     have es2 : ByteArray.size (S p ++ S l[i]) = p.length + l[i].length := by rw [S_append, S_size]; simp
     rw [S_size, S_size, es2, if_neg (by omega), if_neg (by omega)]
     simp only [lt]
     rw [List.length_singleton, if_pos (room8 _ (by omega)), e1, es3]
     refine step _ _ (by omega) ?_
     rw [← hp, poolN_congr (l.drop (i + 1)) (l.take (i + 1)) (l[i] :: l.take i) fun t => by
      rw [ht, Bool.eq_iff_iff, List.contains_iff_mem, List.contains_iff_mem, List.mem_append, List.mem_singleton]
      exact ⟨fun h => List.mem_cons.2 h.symm, fun h => (List.mem_cons.1 h).symm⟩]
     simp only [List.length_append, List.length_singleton]
     omega
    ·have hc : (l.take i).contains l[i] = true := by rw [List.contains_iff_mem]; exact m2
     rw [hc, if_pos rfl] at hp
     rw [if_neg (dneg (by omega)), List.length_singleton, if_pos (room8 _ (by omega)), e1]
     refine step p a m1 ?_
     rw [← hp, poolN_congr (l.drop (i + 1)) (l.take (i + 1)) (l.take i) fun t => by
      rw [ht, Bool.eq_iff_iff, List.contains_iff_mem, List.contains_iff_mem, List.mem_append, List.mem_singleton]
      exact ⟨fun h => h.elim id fun h => h ▸ m2, .inl⟩]
end Go.Proofs.YtenaflbcnkalbaaGreatDoor
end
section
set_option linter.unusedVariables false
set_option linter.unusedSimpArgs false
namespace Go.Proofs.YtenaflbcnkalbaaGreatDoor
open Go Go.Proofs.YtenaflbcnkalbaaGreatDoor.Eng Go.Proofs.YtenaflbcnkalbaaGreatDoor.Pl
set_option maxRecDepth 100000
set_option maxHeartbeats 4000000
theorem qHead (v l t y c : Int) {K : Bool → Prop} (h : K (nin l 0 201 && nin t 0 2000 && nin y 1 64 && nin c 1 256 && nin v 1 4)) : Xepactref15_Right (v, 0, 0, l, t, y, c, ()) K := by
 unfold Xepactref15_Right Yepactref15_Right
 have hb : ∀ b, b = (nin l 0 201 && nin t 0 2000 && nin y 1 64 && nin c 1 256 && nin v 1 4) → K b := fun b e => e ▸ h
 unfold nin at hb
 dsimp only
 simp only [decide_eq_true_eq, show ((0 : Int) == 0) = true from rfl, if_true]
 repeat' split
 all_goals first
  |(refine hb _ ?_; symm; rw [Bool.eq_false_iff]; simp only [ne_eq, Bool.and_eq_true, decide_eq_true_eq]; omega)
  |(refine hb _ ?_; symm; simp only [Bool.and_eq_true, decide_eq_true_eq]; omega)
theorem qCount (z : Zn) (h : ZI z) {K : Int × Int × Int × Int × Int × Int × Int × Unit → Bool → Prop} (hk : ∀ r, K r (countOk z)) : Xepactref16_Count (tupZ z) K := by
 show Xepactref16_Count (TV z.ty, RV z.tr, RV z.lp, S z.ft, z.v, ()) K
 unfold Xepactref16_Count Yepactref16_Count
 have hk1 : ∀ r b, b = countOk z → K r b := fun r b e => e ▸ hk r
 refine qNames z (by have := h.ty; omega) ?_
 refine qPool _ (by have := h.ty; simp; omega) (fun s hs => ?_) (fun p at' o y hp ha hs => ?_) fun ha p at' o y => ?_
 ·obtain ⟨t, ht, rfl⟩ := List.mem_map.1 hs
  have := h.nm t ht; omega
 ·rw [if_neg (by simp)]
  dsimp only
  rw [RV_len, RV_len, TV_len]
  refine qHead _ _ _ _ _ ?_
  have e : countOk z = (nin z.lp.length 0 201 && nin z.tr.length 0 2000 && nin z.ty.length 1 64 && nin (poolN [] (z.ty.map (·.2.2)) : Nat) 1 256 && nin z.v 1 4) := by
   unfold countOk
   rw [ha, Bool.true_and]
  rw [hs, ← e]
  cases hb : countOk z
  ·rw [if_pos (show (!false) = true from rfl)]; exact hk1 _ _ hb.symm
  ·rw [if_neg (by simp)]; exact hk1 _ _ hb.symm
 ·rw [if_pos (show (!false) = true from rfl)]
  refine hk1 _ _ ?_
  unfold countOk
  rw [ha]; simp
theorem qRightZ (z : Zn) (h : ZI z) {K : Bool → Prop} (hk : K (zoneRight z)) : Xepactref19_Right (tupZ z) K := by
 show Xepactref19_Right (TV z.ty, RV z.tr, RV z.lp, S z.ft, z.v, ()) K
 unfold Xepactref19_Right Yepactref19_Right
 dsimp only
 have hl := h.lp
 have hty := h.ty
 have htr := h.tr
 unfold zoneRight at hk
 refine qCount z h fun r => ?_
 refine qRecRight z.lp h.ri (by omega) ?_
 refine qExpiry z.lp (by omega) fun n => ?_
 cases e1 : countOk z
 ·rw [e1] at hk
  rw [if_pos (show (!false) = true from rfl)]
  simpa using hk
 rw [e1] at hk
 rw [if_neg (by simp)]
 cases e2 : recRight z.lp
 ·rw [e2] at hk
  rw [if_pos (show (!false) = true from rfl)]
  simpa using hk
 rw [e2] at hk
 rw [if_neg (by simp)]
 have hv : 1 ≤ z.v ∧ z.v ≤ 4 := by
  unfold countOk nin at e1
  simp only [Bool.and_eq_true, decide_eq_true_eq] at e1
  exact e1.2
 have rest : ∀ {K : Bool → Prop}, K (z.ty.all (fun t => decide (-89999 ≤ t.1 ∧ t.1 ≤ 93599)) && trOk z.ty.length none z.tr && endsOk z) →
   lp (Lepactref19_Right_0 Xepactref18_Parse K) (((), false, 0, ()), (TV z.ty, RV z.tr, RV z.lp, S z.ft, z.v, ()), ()) := by
  intro K hk
  refine lp_ind (fun x => z.ty.length - x.1.2.2.1.toNat) (fun x => ∃ j : Nat, j ≤ z.ty.length ∧ x = (((), false, (j : Int), ()), (TV z.ty, RV z.tr, RV z.lp, S z.ft, z.v, ()), ()) ∧ (z.ty.drop j).all (fun t => decide (-89999 ≤ t.1 ∧ t.1 ≤ 93599)) = z.ty.all (fun t => decide (-89999 ≤ t.1 ∧ t.1 ≤ 93599))) ?_ ⟨0, by omega, rfl, rfl⟩
  rintro x ⟨j, hj, rfl, ha⟩ k hk2
  unfold Lepactref19_Right_0
  dsimp only
  rw [TV_len, Int.toNat_natCast]
  by_cases e : j < z.ty.length
  ·have e1 : w64 ((j : Int) + 1) = ((j + 1 : Nat) : Int) := by rw [w64_in (by omega) (by omega)]; omega
   rw [List.drop_eq_getElem_cons e, List.all_cons] at ha
   rw [if_pos (decide_eq_true (by omega)), if_pos (by omega)]
   refine asT1 e ?_
   rw [if_pos (show 0 ≤ (j : Int) ∧ (j : Int) < z.ty.length by omega)]
   by_cases c1 : (z.ty[j]).1 < -89999
   ·rw [if_pos (decide_eq_true c1)]
    rw [show decide (-89999 ≤ (z.ty[j]).1 ∧ (z.ty[j]).1 ≤ 93599) = false by simp; omega, Bool.false_and] at ha
    rw [← ha] at hk; simpa using hk
   rw [if_neg (dneg c1)]
   refine asT1 e ?_
   by_cases c2 : (z.ty[j]).1 > 93599
   ·rw [if_pos (decide_eq_true c2)]
    rw [show decide (-89999 ≤ (z.ty[j]).1 ∧ (z.ty[j]).1 ≤ 93599) = false by simp; omega, Bool.false_and] at ha
    rw [← ha] at hk; simpa using hk
   rw [if_neg (dneg c2), e1]
   rw [show decide (-89999 ≤ (z.ty[j]).1 ∧ (z.ty[j]).1 ≤ 93599) = true by simp; omega, Bool.true_and] at ha
   exact hk2 _ ⟨j + 1, e, rfl, ha⟩ (by show z.ty.length - ((j + 1 : Nat) : Int).toNat < z.ty.length - ((j : Nat) : Int).toNat; omega)
  ·have : j = z.ty.length := by omega
   subst this
   rw [if_neg (dneg (by omega))]
   rw [List.drop_length, List.all_nil] at ha
   rw [← ha, Bool.true_and] at hk
   clear hk2 ha
   refine lp_ind (fun x => z.tr.length - x.1.2.2.1.toNat) (fun x => ∃ (j : Nat) (b : Option Int), j ≤ z.tr.length ∧ x = (((), false, (j : Int), ()), (TV z.ty, RV z.tr, RV z.lp, S z.ft, z.v, ()), ()) ∧ trOk z.ty.length b (z.tr.drop j) = trOk z.ty.length none z.tr ∧ (j = 0 → b = none) ∧ (∀ (h0 : 0 < j) (hj : j - 1 < z.tr.length), b = some (z.tr[j - 1]).1)) ?_ ⟨0, none, by omega, rfl, rfl, fun _ => rfl, fun h => absurd h (by omega)⟩
   rintro x ⟨j, b, hj, rfl, hok, hb0, hb1⟩ k' hk'
   unfold Lepactref19_Right_1
   dsimp only
   rw [RV_len, TV_len, Int.toNat_natCast]
   by_cases e : j < z.tr.length
   ·have e1 : w64 ((j : Int) + 1) = ((j + 1 : Nat) : Int) := by rw [w64_in (by omega) (by omega)]; omega
    rw [List.drop_eq_getElem_cons e] at hok
    have hcons := trOk_cons z.ty.length b z.tr[j] (z.tr.drop (j + 1))
    rw [hok] at hcons
    have bad : ¬ ((0 ≤ (z.tr[j]).2 ∧ (z.tr[j]).2 < z.ty.length) ∧ (∀ a, b = some a → (z.tr[j]).1 > a)) → K false := fun hn => by
     have : trOk z.ty.length none z.tr = false := by
      cases hr : trOk z.ty.length none z.tr
      ·rfl
      ·exact absurd (hcons.1 hr).1 hn
     rw [this] at hk; simpa using hk
    have good : ((0 ≤ (z.tr[j]).2 ∧ (z.tr[j]).2 < z.ty.length) ∧ (∀ a, b = some a → (z.tr[j]).1 > a)) → k' (((), false, ((j + 1 : Nat) : Int), ()), (TV z.ty, RV z.tr, RV z.lp, S z.ft, z.v, ()), ()) := fun hg => by
     refine hk' _ ⟨j + 1, some (z.tr[j]).1, by omega, rfl, ?_, fun h => absurd h (by omega), fun h0 hj => rfl⟩ ?_
     ·rw [Bool.eq_iff_iff]
      exact ⟨fun hr => hcons.2 ⟨hg, hr⟩, fun hr => (hcons.1 hr).2⟩
     ·show z.tr.length - ((j + 1 : Nat) : Int).toNat < z.tr.length - ((j : Nat) : Int).toNat
      omega
    rw [if_pos (decide_eq_true (by omega)), if_pos (by omega)]
    refine asR2 e ?_
    by_cases c1 : (z.tr[j]).2 < 0
    ·rw [if_pos (decide_eq_true c1)]
     exact bad fun hn => by omega
    rw [if_neg (dneg c1), if_pos (by omega)]
    refine asR2 e ?_
    by_cases c2 : (z.tr[j]).2 ≥ (z.ty.length : Int)
    ·rw [if_pos (decide_eq_true c2)]
     exact bad fun hn => by omega
    rw [if_neg (dneg c2), e1]
    by_cases c3 : j = 0
    ·rw [if_neg (dneg (by omega))]
     exact good ⟨⟨by omega, by omega⟩, fun a ha => by rw [hb0 c3] at ha; cases ha⟩
    ·have e2 : w64 ((j : Int) - 1) = ((j - 1 : Nat) : Int) := by rw [w64_in (by omega) (by omega)]; omega
     have hb := hb1 (by omega) (by omega)
     rw [if_pos (decide_eq_true (by omega)), if_pos (by omega)]
     refine asR1 e ?_
     rw [e2, if_pos (by omega), Int.toNat_natCast]
     refine asR1 (by omega) ?_
     by_cases c4 : (z.tr[j]).1 ≤ (z.tr[j - 1]'(by omega)).1
     ·rw [if_pos (decide_eq_true c4)]
      exact bad fun hn => by have := hn.2 _ hb; omega
     ·rw [if_neg (dneg c4)]
      exact good ⟨⟨by omega, by omega⟩, fun a ha => by rw [hb] at ha; cases ha; omega⟩
   ·have : j = z.tr.length := by omega
    subst this
    rw [if_neg (dneg (by omega))]
    rw [List.drop_length] at hok
    have hok2 : trOk z.ty.length none z.tr = true := hok.symm
    rw [hok2, Bool.true_and] at hk
    rw [S_nil]
    unfold endsOk at hk
    cases e : z.ft.isEmpty
    ·rw [e, Bool.false_or] at hk
     rw [if_neg (by simp)]
     refine rfootParse z.ft (by have := h.ft; omega) ?_
     have hb : ∀ b, b = ((Ft.parse z.ft).2 && decide (z.v ≥ if (oddR (Ft.parse z.ft).1.fr.x || oddR (Ft.parse z.ft).1.to.x) = true then 3 else 2)) → K b := fun b e => e ▸ hk
     have q1 : ∀ f : Ft, (tupFt f).2.2.2.2.2.2.2.2.2.2.2.1 = f.fr.x := fun _ => rfl
     have q2 : ∀ f : Ft, (tupFt f).2.2.2.2.2.2.2.2.2.2.2.2.2.2.2.2.1 = f.to.x := fun _ => rfl
     rw [q1, q2]
     generalize (Ft.parse z.ft).1.fr.x = a at *
     generalize (Ft.parse z.ft).1.to.x = c at *
     generalize (Ft.parse z.ft).2 = o at *
     unfold oddR at hb
     cases o
     ·simp only [Bool.false_and, if_false, Bool.false_eq_true] at hb ⊢
      have := hb _ rfl
      repeat' split
      all_goals exact this
     ·simp only [Bool.true_and, if_true, decide_eq_true_eq, Bool.or_eq_true, Bool.not_eq_true', decide_eq_false_iff_not] at hb ⊢
      repeat' split
      all_goals first
       |(refine hb _ ?_; symm; rw [decide_eq_true_eq]; split <;> omega)
       |(refine hb _ ?_; symm; rw [decide_eq_false_iff_not]; split <;> omega)
       |(refine hb _ ?_; rw [decide_eq_decide]; split <;> omega)
    ·rw [e] at hk
     rw [if_pos rfl]; exact hk
 cases e3 : lastExp z.lp
 ·rw [e3] at hk
  rw [if_neg (by simp)]
  exact rest (by simpa [Bool.and_assoc] using hk)
 ·rw [e3] at hk
  rw [if_pos rfl]
  by_cases e6 : z.v = 4
  ·rw [if_neg (by simpa using e6)]
   have : decide (z.v ≥ 4) = true := by simp; omega
   rw [this] at hk
   exact rest (by simpa [Bool.and_assoc] using hk)
  ·rw [if_pos (by simpa using e6)]
   have : decide (z.v ≥ 4) = false := by simp; omega
   rw [this] at hk
   simpa using hk
end Go.Proofs.YtenaflbcnkalbaaGreatDoor
end
section
set_option linter.unusedVariables false
set_option linter.unusedSimpArgs false
namespace Go.Proofs.YtenaflbcnkalbaaGreatDoor
open Go Go.Proofs.YtenaflbcnkalbaaGreatDoor.Eng Go.Proofs.YtenaflbcnkalbaaGreatDoor.Pl
set_option maxRecDepth 100000
set_option maxHeartbeats 4000000
theorem qIndex (z : Zn) (hz : ZI z) (hs : Srt z.tr) (a : Int) {K : Int → Prop} (h : K ((indexN z a : Int) - 1)) : Xepactref19_Index (tupZ z) a K := by
 show Xepactref19_Index (TV z.ty, RV z.tr, RV z.lp, S z.ft, z.v, ()) a K
 unfold Xepactref19_Index Yepactref19_Index
 have htr := hz.tr
 unfold indexN at h
 have hle := fl_le (fun c : Rec => decide (c.1 > a)) z.tr
 have hsp := fl_spec (fun c : Rec => decide (c.1 > a)) z.tr
 generalize hf : Pl.fl (fun c : Rec => decide (c.1 > a)) z.tr = f at *
 refine lp_at (fun j => ((a, (), (0 : Int), ((min j f : Nat) : Int) - 1, (j : Int), ()), (TV z.ty, RV z.tr, RV z.lp, S z.ft, z.v, ()), ())) z.tr.length (by simp) fun j hj k hk => ?_
 unfold Lepactref19_Index_0
 dsimp only
 rw [RV_len, Int.toNat_natCast]
 by_cases e : j < z.tr.length
 ·have e1 : w64 ((j : Int) + 1) = ((j + 1 : Nat) : Int) := by rw [w64_in (by omega) (by omega)]; omega
  rw [if_pos (decide_eq_true (by omega)), if_pos (by omega)]
  refine asR1 e ?_
  have hk' := hk e
  by_cases c : j < f
  ·have := (hsp j e).1 c
   rw [if_pos (decide_eq_true (by simpa using this)), e1]
   rw [show min (j + 1) f = j + 1 by omega, show ((j + 1 : Nat) : Int) - 1 = (j : Int) by omega] at hk'
   exact hk'
  ·have hfl : f < z.tr.length := by omega
   have h2 := (hsp f hfl).2 rfl
   have h3 := hs f j hfl e (by omega)
   simp only [decide_eq_true_eq] at h2
   rw [if_neg (dneg (by omega)), e1]
   rw [show min (j + 1) f = min j f by omega] at hk'
   exact hk'
 ·rw [if_neg (dneg (by omega))]
  rw [show min j f = f by omega]; exact h
theorem qPosix (z : Zn) (h : ZR z) (a : Int) {K : Int → Prop} (hk : K (posixR z a)) : Xepactref19_Posix (tupZ z) a K := by
 show Xepactref19_Posix (TV z.ty, RV z.tr, RV z.lp, S z.ft, z.v, ()) a K
 unfold Xepactref19_Posix Yepactref19_Posix
 exact qSum z.lp (srt_rec h.all.2.1) (by have := h.lp; omega) a hk
theorem ok_names {f : Ft} (h : f.ok = true) : f.sa.length ≤ 16 ∧ f.wa.length ≤ 16 := by
 unfold Ft.ok kindR abbrL at h
 rw [Bool.and_eq_true] at h
 obtain ⟨h1, h2⟩ := h
 simp only [Bool.and_eq_true, decide_eq_true_eq] at h1
 refine ⟨by omega, ?_⟩
 by_cases e : f.has = true
 ·rw [if_pos e] at h2
  simp only [Bool.and_eq_true, decide_eq_true_eq] at h2
  omega
 ·rw [if_neg e] at h2
  have h3 : f.bare := of_decide_eq_true h2
  rw [h3.2.2.1]; simp
theorem qFoot (f : Ft) (p : Int) (hp : -9223372036854775808 ≤ p ∧ p ≤ 9223372036854775807) (hf : f.ok = true) {K} (h : K (tupT (f.look p))) : Xepactref18_Lookup (tupFt f) p K := by
 obtain ⟨o1, o2, _⟩ := ok_so hf
 obtain ⟨n1, n2⟩ := ok_names hf
 refine rfootLookup f p (by unfold i64; omega) (by unfold i64; omega) (by omega) (by omega) ?_
 unfold Ft.look at h
 by_cases e : f.sum p
 ·rw [if_pos e] at h ⊢; exact h
 ·rw [if_neg e] at h ⊢; exact h
theorem qLookup (z : Zn) (h : ZR z) (a : Int) {K} (hk : K (tupT (lookZ z a))) : Xepactref19_Lookup (tupZ z) a K := by
 unfold Xepactref19_Lookup Yepactref19_Lookup
 refine qIndex z h.toZI h.st a ?_
 have hle := fl_le (fun c : Rec => decide (c.1 > a)) z.tr
 have htr := h.tr
 have h1 := h.one
 unfold lookZ at hk
 have hn : indexN z a = Pl.fl (fun c : Rec => decide (c.1 > a)) z.tr := rfl
 rw [← hn] at hle
 generalize indexN z a = m at *
 have e1 : w64 ((z.tr.length : Int) - 1) = (z.tr.length : Int) - 1 := w64_in (by omega) (by omega)
 simp only [tupZ_eq, S_nil, TV_len, RV_len, e1]
 have found : ¬ (z.ft ≠ [] ∧ m = z.tr.length) → (if decide ((m : Int) - 1 < 0) = true then
   (if (0 : Int) ≤ 0 ∧ 0 < (z.ty.length : Int) then
   (Eng.asInt IntKind.i64 (Eng.getC (TV z.ty) (0 : Nat) (0 : Nat)) False fun n7 =>
   (Eng.asBool (Eng.getC (TV z.ty) (0 : Nat) (1 : Nat)) False fun b8 =>
   (Eng.asStr (Eng.getC (TV z.ty) (0 : Nat) (2 : Nat)) False fun t9 => K (n7, b8, t9, ())))) else False)
   else
   (if 0 ≤ (m : Int) - 1 ∧ (m : Int) - 1 < (z.tr.length : Int) then
   (Eng.asInt IntKind.i64 (Eng.getC (RV z.tr) (Int.toNat ((m : Int) - 1)) (1 : Nat)) False fun n10 =>
   (if 0 ≤ n10 ∧ n10 < (z.ty.length : Int) then
   (Eng.asInt IntKind.i64 (Eng.getC (TV z.ty) (Int.toNat n10) (0 : Nat)) False fun n11 =>
   (Eng.asBool (Eng.getC (TV z.ty) (Int.toNat n10) (1 : Nat)) False fun b12 =>
   (Eng.asStr (Eng.getC (TV z.ty) (Int.toNat n10) (2 : Nat)) False fun t13 => K (n11, b12, t13, ()))))
   else False)) else False)) := fun hno => by
  rw [if_neg hno] at hk
  by_cases hm : m = 0
  ·subst hm
   rw [if_pos (by simp), if_pos (by omega)]
   refine asT1 (by omega) (asT2 (by omega) (asT3 (by omega) ?_))
   have := headD_at z.ty (0, false, []) (by omega)
   simp only [List.take_zero, List.getLast?_nil] at hk
   rw [this] at hk
   exact hk
  ·rw [if_neg (by simp; omega), if_pos (by omega)]
   have e2 : Int.toNat ((m : Int) - 1) = m - 1 := by omega
   rw [e2]
   refine asR2 (by omega) ?_
   obtain ⟨_, q1, q2⟩ := (trOk_all _ _ _ h.all.2.2.2.2.1).1 (m - 1) (by omega)
   have hl : (z.tr.take m).getLast? = some (z.tr[m - 1]'(by omega)) := by
    rw [List.getLast?_eq_getElem?, List.length_take, Nat.min_eq_left hle, List.getElem?_take, if_pos (by omega), List.getElem?_eq_getElem (by omega)]
   rw [hl] at hk
   simp only at hk
   rw [if_pos ⟨q1, q2⟩]
   refine asT1 (by omega) (asT2 (by omega) (asT3 (by omega) ?_))
   rw [getD_at z.ty _ _ (by omega)] at hk
   exact hk
 cases e : z.ft.isEmpty
 ·have hne : z.ft ≠ [] := by
   intro hh; rw [hh] at e; cases e
  rw [if_pos (show (!false) = true from rfl)]
  by_cases hm : m = z.tr.length
  ·rw [if_pos (by simp [hm])]
   rw [if_pos ⟨hne, hm⟩] at hk
   have hp : (Ft.parse z.ft).2 = true := by
    have := h.all.2.2.2.2.2
    unfold endsOk at this
    rw [e] at this
    simp only [Bool.false_or, Bool.and_eq_true] at this
    exact this.1
   refine rfootParse z.ft (by have := h.ft; omega) ?_
   refine qPosix z h a ?_
   exact qFoot _ _ (w64_rng _) (parse_ok _ hp) hk
  ·rw [if_neg (by simp; omega)]
   exact found fun hh => hm hh.2
 ·have hne : z.ft = [] := by
   cases hz : z.ft with
   | nil => rfl
   | cons x r => rw [hz] at e; cases e
  rw [if_neg (by simp)]
  exact found fun hh => hh.1 hne
theorem qInst (z : Zn) (h : ZR z) (l : LR) (hd : 0 ≤ l.1 ∧ l.1 ≤ 3000000) {K : Int → Prop} (hk : K (instR z l)) : Xepactref21_Instant (tupZ z) (l.1, l.2.1, l.2.2, ()) K := by
 unfold Xepactref21_Instant Yepactref21_Instant
 have w1 : w64 (86400 * w64 (l.1 + 1)) = midL l := by
  unfold midL; rw [w64_in (n := l.1 + 1) (by omega) (by omega), w64_in (by omega) (by omega)]; omega
 have hm : 0 ≤ midL l ∧ midL l ≤ 300000000000 := by unfold midL; omega
 simp only [lt, w1]
 unfold instR at hk
 cases hr : l.2.2
 ·rw [if_neg (by simp)]
  rw [if_neg (by simp [hr])] at hk; exact hk
 ·rw [if_pos (by rfl)]
  rw [if_pos hr] at hk
  rw [w64_in (n := midL l - 1) (by omega) (by omega)]
  refine qLookup z h _ ?_
  have := right_off h.right (midL l - 1)
  show K (w64 (midL l - (lookZ z (midL l - 1)).1))
  rw [w64_in (by omega) (by omega)]; exact hk
theorem qRecords (z : Zn) (hz : ZR z) (t : Tb) (ht : rightT t = true) {K : Int → List V → Bool → Bool → Prop} (h : ∀ o f, K (recordsR z t).2 (RV (recordsR z t).1) o f) : Xepactref21_Records (tupZ z) (tupB t) K := by
 unfold Xepactref21_Records Yepactref21_Records
 have hst := right_steps ht
 have hlen := right_len ht
 have hoff := right_off hz.right
 have inst : ∀ i (hi : i < t.ls.length), 0 < instR z t.ls[i] ∧ instR z t.ls[i] < 300000000000 := fun i hi => inst_pos hoff ht _ (List.getElem_mem hi)
 have sb := sumT_bd hst
 have st := stepT_of hst
 have fin : ∀ l, l = recAll z t → Xepactref12_Check (RV l) (fun r11 r12 => if (r12 != 0) = true then K r12 [] true true else K 0 (RV l) true false) := fun l hl => by
  have hi : recI l := by
   intro c hc
   obtain ⟨i, hi, rfl⟩ := List.getElem_of_mem hc
   have hi2 : i < t.ls.length + if t.has = true then 1 else 0 := by rw [← recAll_len z t, ← hl]; exact hi
   have eg : l[i] = (recAll z t).getD i (0, 0) := by rw [← hl, List.getD, List.getElem?_eq_getElem hi]; rfl
   rw [eg]
   by_cases e : i < t.ls.length
   ·rw [recAll_lt z t i e]
    have := inst i e
    have := sb i
    have := sb (i + 1)
    have := st i e
    unfold i64r
    exact ⟨⟨by dsimp only; omega, by dsimp only; omega⟩, by dsimp only; omega, by dsimp only; omega⟩
   ·have hh : t.has = true := by
     cases hh : t.has
     ·rw [hh] at hi2; simp at hi2; omega
     ·rfl
    rw [hh, if_pos rfl] at hi2
    have ei : i = t.ls.length := by omega
    rw [ei, recAll_end z t hh]
    have := (right_ex ht).2 hh
    have := sb t.ls.length
    unfold i64r
    exact ⟨⟨by dsimp only; omega, by dsimp only; omega⟩, by dsimp only; omega, by dsimp only; omega⟩
  refine qRecCheck l hi (by rw [hl, recAll_len]; split <;> omega) fun n => ?_
  unfold recordsR at h
  rw [hl]
  by_cases e : recE (recAll z t) = 0
  ·rw [if_pos e] at h
   rw [e, if_neg (by simp)]; exact h _ _
  ·rw [if_neg e] at h
   rw [if_pos (by simpa using e)]; exact h _ _
 have rl : ∀ j, j ≤ t.ls.length → (recG z 0 (t.ls.take j)).length = j := fun j hj => by rw [recG_len]; simp; omega
 refine lp_at (fun j => (((), (), (), (0 : Int), (), sumT t.ls j, (j : Int), ()), tupZ z, tupB t, RV (recG z 0 (t.ls.take j)), ())) t.ls.length rfl fun j hj k hk => ?_
 unfold Lepactref21_Records_0
 dsimp only
 have lj := rl j hj
 rw [TLV_len, RV_len, lj, Int.toNat_natCast]
 have rm : roomOk (j + 1) 16 = true := room16 _ (by omega)
 by_cases e : j < t.ls.length
 ·rw [if_pos (decide_eq_true (by omega)), if_pos (by omega)]
  refine asL1 e (asL2 e (asL3 e ?_))
  have hd := right_rng ht _ (List.getElem_mem e)
  refine qInst z hz t.ls[j] (by omega) ?_
  have := inst j e
  have b1 := sb j
  have b2 := sb (j + 1)
  have s1 := sumT_succ e
  have s2 := st j e
  have s3 : Pl.stepT t.ls j = (t.ls[j]).2.1 := by unfold Pl.stepT; rw [List.getD, List.getElem?_eq_getElem e]; rfl
  have w1 : w64 ((j : Int) + 1) = ((j + 1 : Nat) : Int) := by rw [w64_in (by omega) (by omega)]; omega
  have w2 : w64 (sumT t.ls j + (t.ls[j]).2.1) = sumT t.ls (j + 1) := by rw [w64_in (by omega) (by omega)]; omega
  have w3 : w64 (instR z t.ls[j] + sumT t.ls j) = instR z t.ls[j] + sumT t.ls j := w64_in (by omega) (by omega)
  have ng : recG z 0 (t.ls.take (j + 1)) = recG z 0 (t.ls.take j) ++ [(instR z t.ls[j] + sumT t.ls j + min (t.ls[j]).2.1 0, sumT t.ls (j + 1))] := by
   rw [← recG_take, ← recG_take, List.take_succ_eq_append_getElem (by rw [recG_len]; exact e), recG_get z t.ls 0 j e (by rw [recG_len]; exact e), s3]
   simp
  simp only [lt, w1, w2, w3, List.length_singleton]
  have hk' := hk e
  rw [ng] at hk'
  by_cases c : (t.ls[j]).2.1 < 0
  ·have w4 : w64 (instR z t.ls[j] + sumT t.ls j - 1) = instR z t.ls[j] + sumT t.ls j + min (t.ls[j]).2.1 0 := by rw [w64_in (by omega) (by omega)]; omega
   rw [if_pos (decide_eq_true c), if_pos rm, w4, rec_snoc]
   exact hk'
  ·have w4 : instR z t.ls[j] + sumT t.ls j + min (t.ls[j]).2.1 0 = instR z t.ls[j] + sumT t.ls j := by omega
   rw [w4] at hk'
   rw [if_neg (dneg c), if_pos rm, rec_snoc]
   exact hk'
 ·have : j = t.ls.length := by omega
  subst this
  rw [if_neg (dneg (by omega))]
  rw [List.take_length]
  by_cases hh : t.has = true
  rotate_left
  ·rw [if_neg hh]
   exact fin _ (by unfold recAll; rw [if_neg hh]; simp)
  ·have x := (right_ex ht).2 hh
   have b1 := sb t.ls.length
   have w4 : w64 (t.ex + sumT t.ls t.ls.length) = t.ex + sumT t.ls t.ls.length := w64_in (by omega) (by omega)
   rw [if_pos hh]
   simp only [lt, w4, List.length_singleton]
   rw [if_pos rm, rec_snoc]
   refine fin _ ?_
   unfold recAll sumT
   rw [hh, if_pos rfl, List.take_length]
theorem qShift (z : Zn) (hz : ZR z) (t : Tb) (ht : rightT t = true) (p : Int) (hp : i64r p) {K : Int → Bool → Prop} (h : K (shiftR z t.ls p).1 (shiftR z t.ls p).2) : Xepactref21_Shift (tupZ z) (tupB t) p K := by
 unfold Xepactref21_Shift Yepactref21_Shift
 have hst := right_steps ht
 have hlen := right_len ht
 refine lp_at (fun j => ((p, (), (), (0 : Int), false, shiftS z (t.ls.take j) p, (j : Int), ()), tupZ z, tupB t, ())) t.ls.length rfl fun j hj k hk => ?_
 unfold Lepactref21_Shift_0
 dsimp only
 rw [TLV_len, Int.toNat_natCast]
 have bd := shiftS_bd z p (t.ls.take j) fun l hl => hst l (List.mem_of_mem_take hl)
 have lt2 : (t.ls.take j).length ≤ t.ls.length := by simp; omega
 by_cases e : j < t.ls.length
 ·rw [if_pos (decide_eq_true (by omega)), if_pos (show 0 ≤ (j : Int) ∧ (j : Int) < t.ls.length by omega)]
  refine asL1 e (asL2 e (asL3 e ?_))
  have hd := right_rng ht _ (List.getElem_mem e)
  refine qInst z hz t.ls[j] (by omega) ?_
  have w1 : w64 ((j : Int) + 1) = ((j + 1 : Nat) : Int) := by rw [w64_in (by omega) (by omega)]; omega
  have := hk e
  rw [List.take_succ_eq_append_getElem e, shift_app, shiftS_cons] at this
  have s2 := hst _ (List.getElem_mem e)
  rw [w1]
  by_cases c : instR z t.ls[j] ≤ p
  ·rw [if_pos (decide_eq_true c), if_pos (by omega)]
   refine asL2 e ?_
   rw [w64_in (by omega) (by omega)]
   rw [if_pos c] at this
   simpa [shiftS] using this
  ·rw [if_neg (dneg c)]
   rw [if_neg c] at this
   simpa [shiftS] using this
 ·have : j = t.ls.length := by omega
  subst this
  rw [if_neg (dneg (by omega))]
  rw [List.take_length] at bd ⊢
  unfold i64r at hp
  refine radd _ _ hp ⟨by omega, by omega⟩ ?_
  unfold shiftR at h
  by_cases q : inI (p + shiftS z t.ls p)
  ·rw [if_pos q] at h
   rw [if_pos (show -9223372036854775808 ≤ p + shiftS z t.ls p ∧ p + shiftS z t.ls p ≤ 9223372036854775807 from q)]; exact h
  ·rw [if_neg q] at h
   rw [if_neg (show ¬ (-9223372036854775808 ≤ p + shiftS z t.ls p ∧ p + shiftS z t.ls p ≤ 9223372036854775807) from q)]; exact h
end Go.Proofs.YtenaflbcnkalbaaGreatDoor
end
section
set_option linter.unusedVariables false
set_option linter.unusedSimpArgs false
namespace Go.Proofs.YtenaflbcnkalbaaGreatDoor
open Go Go.Proofs.YtenaflbcnkalbaaGreatDoor.Eng Go.Proofs.YtenaflbcnkalbaaGreatDoor.Pl
set_option maxRecDepth 100000
set_option maxHeartbeats 4000000
def rTy : List Ty := [(-18000, false, [69, 83, 84]), (-14400, true, [69, 68, 84])]
def rZ : Zn := ⟨rTy, [(5, 1), (78796799, 0), (78796801, 1), (100000000, 0)], [], [], 2⟩
def rX : Zn := ⟨rTy, [(5, 1), (78796799, 0), (78796801, 1), (100000000, 0)], [], [], 4⟩
def rY : Zn := ⟨rTy, [(5, 1), (78796799, 0), (78796802, 1), (100000002, 0)], [(78796800, 1), (94694401, 2), (200000002, 2)], [], 4⟩
def rW : Zn := ⟨rTy, [(78796799, 0), (78796800, 1)], [], [], 2⟩
def rT : Tb := ⟨[(911, 1, false), (1095, 1, false)], true, 200000000⟩
def rU : Tb := ⟨[(911, 1, true)], false, 0⟩
def rV : Tb := ⟨[(911, -1, false)], false, 0⟩
theorem iZ : ZI rZ := ⟨by decide, by decide, by decide, by decide, by decide, by unfold recI; decide, by unfold recI; decide, by decide⟩
theorem iY : ZI rY := ⟨by decide, by decide, by decide, by decide, by decide, by unfold recI; decide, by unfold recI; decide, by decide⟩
theorem iW : ZI rW := ⟨by decide, by decide, by decide, by decide, by decide, by unfold recI; decide, by unfold recI; decide, by decide⟩
theorem rzZ : ZR rZ := ⟨iZ, by kernel_rfl⟩
theorem sCompileAt (z : Zn) (hz : ZI z) (t : Tb) (r : Zn × Int) (e : compileR z t = r) (hl : Nat.ble t.ls.length 1000 = true) {K : _ → _ → _ → _ → _ → _ → _ → _ → _ → _ → _ → Prop}
  (h : ∀ a b c d e f, K ((), (), (), S r.1.ft, r.1.v, ()) r.2 (TV r.1.ty) a b (RV r.1.tr) c d (RV r.1.lp) e f) : Xright_Compile (tupZ z) (tupB t) K := by
 subst e; exact sCompile z hz t (Nat.le_of_ble_eq_true hl) h
theorem sStripAt (z : Zn) (hz : ZI z) (r : Zn × Int) (e : stripR z = r) {K : _ → _ → _ → _ → _ → _ → _ → _ → _ → _ → _ → Prop}
  (h : ∀ a b c d e f, K ((), (), (), S r.1.ft, r.1.v, ()) r.2 (TV r.1.ty) a b (RV r.1.tr) c d (RV r.1.lp) e f) : Xright_Strip (tupZ z) K := by
 subst e; exact sStrip z hz h
theorem sRecordsAt (z : Zn) (hz : ZR z) (t : Tb) (ht : rightT t = true) (r : List Rec × Int) (e : recordsR z t = r) {K : Int → List V → Bool → Bool → Prop} (h : ∀ o f, K r.2 (RV r.1) o f) : Xright_Records (tupZ z) (tupB t) K := by
 subst e; exact sRecords z hz t ht h
theorem sShiftAt (z : Zn) (hz : ZR z) (t : Tb) (ht : rightT t = true) (p : Int) (hp : i64r p) (r : Int × Bool) (e : shiftR z t.ls p = r) {K : Int → Bool → Prop} (h : K r.1 r.2) : Xright_Shift (tupZ z) (tupB t) p K := by
 subst e; exact sShift z hz t ht p hp h
theorem rsmall {K : Bool → Prop} (h : K true) : Xepactlaw21_small K := by
 rw [Xepactlaw21_small, Yepactlaw21_small]
 refine sCompileAt rZ iZ rT (rY, 0) (by kernel_rfl) (by kernel_rfl) fun a1 a2 a3 a4 a5 a6 => ?_
 refine sStripAt rY iY (rX, 0) (by kernel_rfl) fun b1 b2 b3 b4 b5 b6 => ?_
 rw [if_neg (show ¬ ((((RV rY.tr).length : Nat) : Int) != 4) = true by rw [RV_len]; decide), if_neg (show ¬ ((((RV rY.lp).length : Nat) : Int) != 3) = true by rw [RV_len]; decide)]
 refine sRecordsAt rZ rzZ rU (by kernel_rfl) ([(78814800, 1)], 0) (by kernel_rfl) fun c1 c2 => ?_
 refine sShiftAt rZ rzZ rT (by kernel_rfl) 78796800 (by unfold i64r; decide) (78796801, true) (by kernel_rfl) ?_
 refine sCompileAt rY iY rT (zn0, 1) (by kernel_rfl) (by kernel_rfl) fun d1 d2 d3 d4 d5 d6 => ?_
 refine sCompileAt rW iW rV (zn0, 4) (by kernel_rfl) (by kernel_rfl) fun e1 e2 e3 e4 e5 e6 => ?_
 refine sShiftAt rZ rzZ rT (by kernel_rfl) 9223372036854775807 (by unfold i64r; decide) (0, false) (by kernel_rfl) ?_
 have l4 : (RV rY.tr).length = 4 := by rw [RV_len]; decide
 have l3 : (RV rY.lp).length = 3 := by rw [RV_len]; decide
 simp only [l4, l3]
 rw [if_pos (by decide), if_pos (by decide)]
 refine asR1 (l := rY.tr) (i := 0) (by decide) ?_
 rw [if_pos (by decide), if_pos (by decide)]
 refine asR1 (l := rY.tr) (i := 1) (by decide) ?_
 rw [if_pos (by decide), if_pos (by decide)]
 refine asR1 (l := rY.tr) (i := 2) (by decide) ?_
 rw [if_pos (by decide), if_pos (by decide)]
 refine asR1 (l := rY.tr) (i := 3) (by decide) ?_
 rw [if_pos (by decide), if_pos (by decide), if_pos (by decide)]
 refine asR1 (l := rY.lp) (i := 2) (by decide) (asR2 (l := rY.lp) (i := 2) (by decide) ?_)
 rw [if_pos (by decide), if_pos (by decide)]
 refine qSame16 rZ rZ (by decide) (by decide) (by decide) ?_
 rw [if_pos (by kernel_rfl)]
 refine sInst rZ rzZ (911, 1, true) (by decide) ?_
 rw [show instR rZ (911, 1, true) = 78814800 by kernel_rfl, if_pos (by decide), if_pos (by decide)]
 refine qSame12 [(78814800, 1)] [(78814800, 1)] (by decide) ?_
 rw [if_pos (by decide), if_pos (by decide), if_pos trivial, if_pos (by decide), if_pos (by decide)]
 exact h
theorem no_leaps (z : Zn) : (tupZ z).2.2.1.length = z.lp.length := RV_len z.lp
end Go.Proofs.YtenaflbcnkalbaaGreatDoor
end
section
set_option linter.unusedVariables false
set_option linter.unusedSimpArgs false
namespace Go.Proofs.YtenaflbcnkalbaaGreatDoor
open Go Go.Proofs.YtenaflbcnkalbaaGreatDoor.Eng Go.Proofs.YtenaflbcnkalbaaGreatDoor.Pl
set_option maxRecDepth 100000
set_option maxHeartbeats 4000000
theorem qRising (M : List Rec) (hl : M.length ≤ 100000) {K : Bool → Prop} (h : K (rising M)) : Xepactref21_rising (RV M) K := by
 unfold Xepactref21_rising Yepactref21_rising
 refine lp_ind (fun x => M.length - x.1.2.2.1.toNat) (fun x => ∃ j : Nat, 1 ≤ j ∧ (∀ q (h : q + 1 < M.length), q + 1 < j → (M[q]).1 < (M[q + 1]).1) ∧
  x = ((RV M, false, (j : Int), ()), ())) ?_ ⟨1, by omega, by omega, rfl⟩
 rintro x ⟨j, hj, hall2, rfl⟩ k hk
 unfold Lepactref21_rising_0
 dsimp only
 rw [RV_len, Int.toNat_natCast]
 by_cases e : j < M.length
 ·have w1 : w64 ((j : Int) + 1) = ((j + 1 : Nat) : Int) := by rw [w64_in (by omega) (by omega)]; omega
  have w2 : w64 ((j : Int) - 1) = ((j - 1 : Nat) : Int) := by rw [w64_in (by omega) (by omega)]; omega
  rw [if_pos (decide_eq_true (by omega)), if_pos (by omega)]
  refine asR1 e ?_
  have e1 : j - 1 < M.length := by omega
  rw [w2, if_pos (by omega), Int.toNat_natCast]
  refine asR1 e1 ?_
  by_cases c : (M[j]).1 ≤ (M[j - 1]).1
  ·rw [if_pos (decide_eq_true c)]
   have hnr : rising M = false := by
    rw [Bool.eq_false_iff]; intro hh
    have := rising_get M hh (j - 1) (by omega)
    simp only [show j - 1 + 1 = j by omega] at this; omega
   rw [hnr] at h; exact h
  ·rw [if_neg (dneg c), w1]
   refine hk _ ⟨j + 1, by omega, fun q h1 h2 => ?_, rfl⟩ (by show M.length - Int.toNat ((j + 1 : Nat) : Int) < M.length - Int.toNat (j : Int); omega)
   rcases Nat.lt_or_ge (q + 1) j with h3 | h3
   ·exact hall2 q h1 h3
   ·have : q = j - 1 := by omega
    subst this
    simp only [show j - 1 + 1 = j by omega]; omega
 ·rw [if_neg (dneg (by omega))]
  have hr : rising M = true := rising_of M fun q h => hall2 q h (by omega)
  rw [hr] at h; exact h
theorem qCopyZ (z : Zn) (h : ZI z) {K : Unit × Unit × Unit × ByteArray × Int × Unit → List V → Bool → Bool → List V → Bool → Bool → List V → Bool → Bool → Prop}
  (hk : K ((), (), (), S z.ft, z.v, ()) (TV z.ty) true false (RV z.tr) true false (RV z.lp) true false) : Xepactref16_Copy (tupZ z) K := by
 show Xepactref16_Copy (TV z.ty, RV z.tr, RV z.lp, S z.ft, z.v, ()) K
 unfold Xepactref16_Copy Yepactref16_Copy
 dsimp only
 have h1 := h.ty
 have h2 := h.tr
 have h3 := h.lp
 rw [TV_len, RV_len, RV_len, if_pos (room32 _ (by omega)), if_pos (room16 _ (by omega)), if_pos (room16 _ (by omega))]
 exact hk
theorem qPlain (z : Zn) (h : ZI z) {K : Bool → Prop} (hk : K (decide (z.lp = [] ∧ zoneRight z = true))) : Xepactref21_plain (tupZ z) K := by
 unfold Xepactref21_plain Yepactref21_plain
 refine qRightZ z h ?_
 cases e : zoneRight z
 ·rw [if_neg (by simp)]
  rw [e] at hk; simpa using hk
 ·rw [if_pos rfl]
  rw [e] at hk
  have : ((((tupZ z).2.2.1.length : Nat) : Int) == 0) = decide (z.lp = [] ∧ true = true) := by
   show (((RV z.lp).length : Int) == 0) = _
   rw [RV_len, Bool.eq_iff_iff, beq_iff_eq, decide_eq_true_eq, ← List.length_eq_zero_iff]
   constructor
   ·intro q; exact ⟨by omega, rfl⟩
   ·intro q; omega
  rw [this]; exact hk
theorem qCompile (z : Zn) (hz : ZI z) (t : Tb) (hl : t.ls.length ≤ 1000) {K : _ → _ → _ → _ → _ → _ → _ → _ → _ → _ → _ → Prop}
  (h : ∀ a b c d e f, K ((), (), (), S (compileR z t).1.ft, (compileR z t).1.v, ()) (compileR z t).2 (TV (compileR z t).1.ty) a b (RV (compileR z t).1.tr) c d (RV (compileR z t).1.lp) e f) : Xepactref21_Compile (tupZ z) (tupB t) K := by
 unfold Xepactref21_Compile Yepactref21_Compile
 refine qPlain z hz ?_
 refine qRightT t (by omega) ?_
 unfold compileR at h
 by_cases hg : (z.lp = [] ∧ zoneRight z = true) ∧ rightT t = true
 rotate_left
 ·rw [if_pos hg] at h
  by_cases h1 : z.lp = [] ∧ zoneRight z = true
  ·rw [if_neg (by simp [h1])]
   have h2 : rightT t = false := by
    rw [Bool.eq_false_iff]; intro q; exact hg ⟨h1, q⟩
   rw [h2, if_pos (by rfl)]; exact h _ _ _ _ _ _
  ·rw [if_pos (by rw [decide_eq_false h1]; rfl)]; exact h _ _ _ _ _ _
 obtain ⟨⟨e0, hr⟩, ht⟩ := hg
 rw [if_neg (fun hh => hh ⟨⟨e0, hr⟩, ht⟩)] at h
 rw [if_neg (by simp [e0, hr]), if_neg (by simp [ht])]
 have hzr : ZR z := ⟨hz, hr⟩
 refine qCopyZ z hz ?_
 refine qRecords z hzr t ht fun o f => ?_
 by_cases e1 : (recordsR z t).2 = 0
 rotate_left
 ·rw [if_pos (by simpa using e1)]
  rw [if_pos e1] at h
  exact h _ _ _ _ _ _
 rw [if_neg (by simp [e1])]
 rw [if_neg (by simp [e1])] at h
 have hti := hz.ti
 have htr := hz.tr
 unfold movedR at h
 refine lp_ind (fun x => z.tr.length - x.1.2.2.2.2.2.1.toNat) (fun x => ∃ j : Nat, j ≤ z.tr.length ∧ (∀ c ∈ z.tr.take j, (shiftR z t.ls c.1).2 = true) ∧
  x = (((), (), (), (0 : Int), (), (j : Int), ()), tupZ z, tupB t, ((), (), (), ByteArray.mk #[], 0, ()), ((), (), (), S z.ft, z.v, ()), (TV z.ty, true, false), (RV (mixR (fun a => (shiftR z t.ls a).1) z.tr j), true, false), (RV (recordsR z t).1, o, f), ())) ?_ ⟨0, by omega, by simp, by simp [mixR]⟩
 rintro x ⟨j, hj, hall, rfl⟩ k hk
 unfold Lepactref21_Compile_0
 dsimp only
 have lm := mix_len (fun a => (shiftR z t.ls a).1) z.tr j hj
 rw [show (tupZ z).2.1 = RV z.tr from rfl, RV_len, RV_len, lm, Int.toNat_natCast]
 by_cases e : j < z.tr.length
 ·have hm : j < (mixR (fun a => (shiftR z t.ls a).1) z.tr j).length := by omega
  rw [if_pos (decide_eq_true (by omega)), if_pos (by omega)]
  refine asR1 e ?_
  have hin : i64r (z.tr[j]).1 := (hti _ (List.getElem_mem e)).1
  refine qShift z hzr t ht _ hin ?_
  cases hs : (shiftR z t.ls (z.tr[j]).1).2
  ·rw [if_pos (by rfl)]
   have hna : ¬ (z.tr.all (fun c => (shiftR z t.ls c.1).2) = true) := fun hh => by
    have := List.all_eq_true.1 hh _ (List.getElem_mem e)
    rw [hs] at this; cases this
   rw [if_neg hna] at h
   exact h _ _ _ _ _ _
  ·rw [if_neg (by simp), if_pos (by omega), if_pos rfl, if_pos (by omega), RV_set _ _ hm, mix_get _ _ _ e hm, mix_succ (fun a => (shiftR z t.ls a).1) z.tr j e]
   have w1 : w64 ((j : Int) + 1) = ((j + 1 : Nat) : Int) := by rw [w64_in (by omega) (by omega)]; omega
   rw [w1]
   refine hk _ ⟨j + 1, e, fun c hc => ?_, rfl⟩ (by show z.tr.length - Int.toNat ((j + 1 : Nat) : Int) < z.tr.length - Int.toNat (j : Int); omega)
   rw [List.take_succ_eq_append_getElem e, List.mem_append, List.mem_singleton] at hc
   rcases hc with hc | rfl
   ·exact hall c hc
   ·exact hs
 ·have : j = z.tr.length := by omega
  subst this
  rw [if_neg (dneg (by omega))]
  rw [List.take_length] at hall
  have ha : z.tr.all (fun c => (shiftR z t.ls c.1).2) = true := List.all_eq_true.2 hall
  rw [if_pos ha] at h
  rw [mix_end]
  refine qRising _ (by simp; omega) ?_
  cases hrs : rising (z.tr.map fun c => ((shiftR z t.ls c.1).1, c.2))
  ·rw [if_pos (by rfl)]
   rw [hrs] at h
   exact h _ _ _ _ _ _
  ·rw [if_neg (by simp)]
   rw [hrs] at h
   by_cases hh : t.has = true
   ·rw [if_pos (show (tupB t).2.1 = true from hh)]
    rw [if_pos hh] at h
    exact h _ _ _ _ _ _
   ·rw [if_neg (show ¬ (tupB t).2.1 = true from hh)]
    rw [if_neg hh] at h
    exact h _ _ _ _ _ _
theorem qStrip (z : Zn) (hz : ZI z) {K : _ → _ → _ → _ → _ → _ → _ → _ → _ → _ → _ → Prop}
  (h : ∀ a b c d e f, K ((), (), (), S (stripR z).1.ft, (stripR z).1.v, ()) (stripR z).2 (TV (stripR z).1.ty) a b (RV (stripR z).1.tr) c d (RV (stripR z).1.lp) e f) : Xepactref21_Strip (tupZ z) K := by
 unfold Xepactref21_Strip Yepactref21_Strip
 refine qRightZ z hz ?_
 unfold stripR at h
 cases hr : zoneRight z
 ·rw [if_pos (by rfl)]
  rw [hr, if_neg (by simp)] at h
  exact h _ _ _ _ _ _
 rw [if_neg (by simp)]
 rw [hr, if_pos rfl] at h
 have hzr : ZR z := ⟨hz, hr⟩
 refine qCopyZ z hz ?_
 have hti := hz.ti
 have htr := hz.tr
 unfold movedR at h
 refine lp_ind (fun x => z.tr.length - x.1.2.2.2.2.1.toNat) (fun x => ∃ j : Nat, j ≤ z.tr.length ∧ (∀ c ∈ z.tr.take j, (subR z c.1).2 = true) ∧
  x = (((), (), (0 : Int), (), (j : Int), ()), tupZ z, ((), (), (), ByteArray.mk #[], 0, ()), ((), (), (), S z.ft, z.v, ()), (TV z.ty, true, false), (RV (mixR (fun a => (subR z a).1) z.tr j), true, false), ())) ?_ ⟨0, by omega, by simp, by simp [mixR]⟩
 rintro x ⟨j, hj, hall, rfl⟩ k hk
 unfold Lepactref21_Strip_0
 dsimp only
 have lm := mix_len (fun a => (subR z a).1) z.tr j hj
 rw [show (tupZ z).2.1 = RV z.tr from rfl, show (tupZ z).2.2.1 = RV z.lp from rfl, RV_len, RV_len, lm, Int.toNat_natCast]
 by_cases e : j < z.tr.length
 ·have hm : j < (mixR (fun a => (subR z a).1) z.tr j).length := by omega
  have hx : 0 ≤ (j : Int) ∧ (j : Int) < (z.tr.length : Int) := by omega
  rw [if_pos (decide_eq_true (by omega)), if_pos hx]
  refine asR1 e ?_
  rw [if_pos hx]
  refine asR1 e ?_
  have hin : i64r (z.tr[j]).1 := (hti _ (List.getElem_mem e)).1
  have hss := sum_bd hzr (z.tr[j]).1
  refine qSum z.lp (srt_rec hzr.all.2.1) (by have := hz.lp; omega) _ ?_
  have w1 : w64 ((j : Int) + 1) = ((j + 1 : Nat) : Int) := by rw [w64_in (by omega) (by omega)]; omega
  refine qSub _ _ hin (by unfold i64r; omega) (fun q => ?_) fun q => ?_
  ·have hs : subR z (z.tr[j]).1 = ((z.tr[j]).1 - sumR z.lp (z.tr[j]).1, true) := by unfold subR; rw [if_pos (show inI _ from q)]
   have e5 : (subR z (z.tr[j]).1).1 = (z.tr[j]).1 - sumR z.lp (z.tr[j]).1 := by rw [hs]
   rw [if_neg (by simp), if_pos hx, if_pos rfl, if_pos (by omega), RV_set _ _ hm, mix_get _ _ _ e hm, ← e5, mix_succ (fun a => (subR z a).1) z.tr j e]
   rw [w1]
   refine hk _ ⟨j + 1, e, fun c hc => ?_, rfl⟩ (by show z.tr.length - Int.toNat ((j + 1 : Nat) : Int) < z.tr.length - Int.toNat (j : Int); omega)
   rw [List.take_succ_eq_append_getElem e, List.mem_append, List.mem_singleton] at hc
   rcases hc with hc | rfl
   ·exact hall c hc
   ·rw [hs]
  ·rw [if_pos (by rfl)]
   have hs : (subR z (z.tr[j]).1).2 = false := by unfold subR; rw [if_neg (show ¬ inI _ from q)]
   have hna : ¬ (z.tr.all (fun c => (subR z c.1).2) = true) := fun hh => by
    have := List.all_eq_true.1 hh _ (List.getElem_mem e)
    rw [hs] at this; cases this
   rw [if_neg hna] at h
   exact h _ _ _ _ _ _
 ·have : j = z.tr.length := by omega
  subst this
  rw [if_neg (dneg (by omega))]
  rw [List.take_length] at hall
  have ha : z.tr.all (fun c => (subR z c.1).2) = true := List.all_eq_true.2 hall
  rw [if_pos ha] at h
  rw [mix_end]
  refine qRising _ (by simp; omega) ?_
  cases hrs : rising (z.tr.map fun c => ((subR z c.1).1, c.2))
  ·rw [if_pos (by rfl)]
   rw [hrs] at h
   exact h _ _ _ _ _ _
  ·rw [if_neg (by simp)]
   rw [hrs] at h
   exact h _ _ _ _ _ _
end Go.Proofs.YtenaflbcnkalbaaGreatDoor
end
section
set_option linter.unusedVariables false
set_option linter.unusedSimpArgs false
namespace Go.Proofs.YtenaflbcnkalbaaGreatDoor
open Go Go.Proofs.YtenaflbcnkalbaaGreatDoor.Eng Go.Proofs.YtenaflbcnkalbaaGreatDoor.Pl
set_option maxRecDepth 100000
set_option maxHeartbeats 4000000
theorem sameZ_self (z : Zn) : sameZ z z = true := by unfold sameZ; simp
theorem moved_len (z : Zn) (to : Int → Int × Bool) : (movedR z to).1.ty.length ≤ z.ty.length ∧ (movedR z to).1.tr.length ≤ z.tr.length ∧ (movedR z to).1.lp.length ≤ z.lp.length := by
 unfold movedR
 split
 ·split
  ·simp
  ·simp [zn0]
 ·simp [zn0]
theorem compile_len (z : Zn) (t : Tb) : (compileR z t).1.ty.length ≤ z.ty.length ∧ (compileR z t).1.tr.length ≤ z.tr.length ∧ (compileR z t).1.lp.length ≤ t.ls.length + 1 := by
 have hm := moved_len z (shiftR z t.ls)
 unfold compileR
 split
 ·simp [zn0]
 split
 ·simp [zn0]
 split
 ·simp [zn0]
 ·refine ⟨hm.1, hm.2.1, ?_⟩
  show (recordsR z t).1.length ≤ _
  unfold recordsR
  split
  ·show (recAll z t).length ≤ _
   rw [recAll_len]; split <;> omega
  ·simp
theorem strip_len (z : Zn) : (stripR z).1.ty.length ≤ z.ty.length ∧ (stripR z).1.tr.length ≤ z.tr.length ∧ (stripR z).1.lp.length = 0 := by
 have hm := moved_len z (subR z)
 unfold stripR
 split
 ·exact ⟨hm.1, hm.2.1, rfl⟩
 ·simp [zn0]
theorem records_len (z : Zn) (t : Tb) : (recordsR z t).1.length ≤ t.ls.length + 1 := by
 unfold recordsR
 split
 ·show (recAll z t).length ≤ _
  rw [recAll_len]; split <;> omega
 ·simp
theorem lRightTells (z : Zn) (hg : ZG z) (t : Tb) (p : Int) (hp : i64r p) {K : Bool → Prop} (h : K true) : Xepactlaw21_RightTells (tupZ z) (tupB t) p K := by
 rw [Xepactlaw21_RightTells, Yepactlaw21_RightTells]
 refine rsmall (sFew z hg.tl (fun hf => ?_) ?_)
 rotate_left
 ·unfold Xepactlaw09_Few Yepactlaw09_Few
  dsimp only
  rw [if_pos (by rfl)]; exact h
 unfold Xepactlaw09_Few Yepactlaw09_Few
 dsimp only
 rw [if_neg (by simp), TLV_len]
 by_cases e1 : ((t.ls.length : Nat) : Int) ≤ 300
 rotate_left
 ·rw [if_pos (by simp; omega)]; exact h
 rw [if_neg (by simp; omega)]
 have hz := hg.zi hf
 refine sCompile z hz t (by omega) fun a1 a2 a3 a4 a5 a6 => ?_
 refine qCompile z hz t (by omega) fun b1 b2 b3 b4 b5 b6 => ?_
 refine sStrip z hz fun c1 c2 c3 c4 c5 c6 => ?_
 refine qStrip z hz fun d1 d2 d3 d4 d5 d6 => ?_
 have lc := compile_len z t
 have ls := strip_len z
 have h1 := hz.ty
 have h2 := hz.tr
 have h3 := hz.lp
 refine qSame16 (compileR z t).1 (compileR z t).1 (by omega) (by omega) (by omega) ?_
 rw [sameZ_self, if_neg (by simp), if_neg (by simp)]
 refine qSame16 (stripR z).1 (stripR z).1 (by omega) (by omega) (by omega) ?_
 rw [sameZ_self, if_neg (by simp), if_neg (by simp)]
 refine qRightZ z hz (qRightT t (by omega) ?_)
 cases hr : zoneRight z
 ·rw [if_pos (by rfl)]; exact h
 rw [if_neg (by simp)]
 cases ht : rightT t
 ·rw [if_pos (by rfl)]; exact h
 rw [if_neg (by simp), no_leaps]
 by_cases e0 : (z.lp.length : Int) > 0
 ·rw [if_pos (decide_eq_true e0)]; exact h
 rw [if_neg (dneg e0)]
 have hzr : ZR z := ⟨hz, hr⟩
 refine sRecords z hzr t ht fun o1 f1 => ?_
 refine qRecords z hzr t ht fun o2 f2 => ?_
 refine sShift z hzr t ht p hp (qShift z hzr t ht p hp ?_)
 refine lp_at (fun j => (((), (), false, true, (), (recordsR z t).2, (), (recordsR z t).2, (shiftR z t.ls p).1, (shiftR z t.ls p).2, (shiftR z t.ls p).1, (shiftR z t.ls p).2, (j : Int), ()), tupZ z, tupB t, (RV (recordsR z t).1, o1, f1), (RV (recordsR z t).1, o2, f2), ())) t.ls.length rfl fun j hj k hk => ?_
 unfold Lepactlaw21_RightTells_0
 dsimp only
 rw [TLV_len, Int.toNat_natCast]
 by_cases e : j < t.ls.length
 ·have hx : 0 ≤ (j : Int) ∧ (j : Int) < (t.ls.length : Int) := by omega
  rw [if_pos (decide_eq_true (by omega)), if_pos hx]
  refine asL1 e (asL2 e (asL3 e ?_))
  rw [if_pos hx]
  refine asL1 e (asL2 e (asL3 e ?_))
  have hd := right_rng ht _ (List.getElem_mem e)
  refine sInst z hzr t.ls[j] (by omega) (qInst z hzr t.ls[j] (by omega) ?_)
  have w1 : w64 ((j : Int) + 1) = ((j + 1 : Nat) : Int) := by rw [w64_in (by omega) (by omega)]; omega
  rw [if_neg (by simp), w1]
  exact hk e
 ·rw [if_neg (dneg (by omega)), if_pos rfl]
  have lr := records_len z t
  refine qSame12 _ _ (by omega) ?_
  rw [if_pos (by simp), if_pos (by simp), if_pos (by simp)]
  simpa using h
end Go.Proofs.YtenaflbcnkalbaaGreatDoor
end
section
set_option linter.unusedVariables false
set_option linter.unusedSimpArgs false
namespace Go.Proofs.YtenaflbcnkalbaaGreatDoor
open Go Go.Proofs.YtenaflbcnkalbaaGreatDoor.Eng Go.Proofs.YtenaflbcnkalbaaGreatDoor.Pl
theorem wfI {n : Int} (h : (Lit.int .i64 n).wf = true) : i64r n := by
 simp [Lit.wf, IntKind.min, IntKind.max, IntKind.bits, IntKind.signed] at h
 unfold i64r; omega
theorem zone_of (tys : List (Int × Bool × ByteArray × Unit)) (trs lps : List (Int × Int × Unit)) (ft : ByteArray) (v : Int) (h1 : tys.length ≤ 9223372036854775807)
  (h2 : ∀ c ∈ trs, (Lit.int .i64 c.1).wf = true ∧ (Lit.int .i64 c.2.1).wf = true ∧ True) (h3 : ∀ c ∈ lps, (Lit.int .i64 c.1).wf = true ∧ (Lit.int .i64 c.2.1).wf = true ∧ True) (h4 : (Lit.int .i64 v).wf = true) :
  ∃ z, ZG z ∧ ((tys.map fun x => V.agg [.c (.int .i64 x.1), .c (.bool x.2.1), .c (.string x.2.2.1)], trs.map fun x => V.agg [.c (.int .i64 x.1), .c (.int .i64 x.2.1)], lps.map fun x => V.agg [.c (.int .i64 x.1), .c (.int .i64 x.2.1)], ft, v, ()) : List V × List V × List V × ByteArray × Int × Unit) = tupZ z := by
 have rcI : ∀ l : List (Int × Int × Unit), (∀ c ∈ l, (Lit.int .i64 c.1).wf = true ∧ (Lit.int .i64 c.2.1).wf = true ∧ True) → recI (l.map fun c => (c.1, c.2.1)) := fun l hl c hc => by
  obtain ⟨d, hd, rfl⟩ := List.mem_map.1 hc
  exact ⟨wfI (hl d hd).1, wfI (hl d hd).2.1⟩
 refine ⟨⟨tys.map fun t => (t.1, t.2.1, t.2.2.1.data.toList), trs.map fun c => (c.1, c.2.1), lps.map fun c => (c.1, c.2.1), ft.data.toList, v⟩, ⟨rcI lps h3, rcI trs h2, wfI h4, by simpa using h1⟩, ?_⟩
 unfold tupZ
 simp only [List.map_map]
 rfl
abbrev akZ : AK := (.st (.cons (.sl (.st (.cons (.int .i64) (.cons .bool (.cons .str .nil))))) (.cons (.sl (.st (.cons (.int .i64) (.cons (.int .i64) .nil)))) (.cons (.sl (.st (.cons (.int .i64) (.cons (.int .i64) .nil)))) (.cons .str (.cons (.int .i64) .nil))))))
theorem zone_in (a : akZ.T) (h : akZ.good a) : ∃ z, ZG z ∧ (akZ.DV a : List V × List V × List V × ByteArray × Int × Unit) = tupZ z := by
 obtain ⟨tys, trs, lps, ft, v, u⟩ := a
 obtain ⟨h1, h2, h3, h4, h5, h6⟩ := h
 exact zone_of tys trs lps ft v h1.1 h2.2 h3.2 h5
end Go.Proofs.YtenaflbcnkalbaaGreatDoor
end
section
set_option linter.unusedVariables false
set_option linter.unusedSimpArgs false
namespace Go.Proofs.YtenaflbcnkalbaaGreatDoor
open Go Go.Proofs.YtenaflbcnkalbaaGreatDoor.Eng Go.Proofs.YtenaflbcnkalbaaGreatDoor.Pl
abbrev akT : AK := (.st (.cons (.sl (.st (.cons (.int .i64) (.cons (.int .i64) (.cons .bool .nil))))) (.cons .bool (.cons (.int .i64) .nil))))
theorem wfT {n : Int} (h : (Lit.int .i64 n).wf = true) : -9223372036854775808 ≤ n ∧ n ≤ 9223372036854775807 := by
 simp [Lit.wf, IntKind.min, IntKind.max, IntKind.bits, IntKind.signed] at h
 omega
theorem table_of (ls : List (Int × Int × Bool × Unit)) (has : Bool) (ex : Int) (h1 : ls.length ≤ 9223372036854775807) (h3 : (Lit.int .i64 ex).wf = true) :
  ∃ t : Tb, ((ls.map fun x => V.agg [.c (.int .i64 x.1), .c (.int .i64 x.2.1), .c (.bool x.2.2.1)], has, ex, ()) : List V × Bool × Int × Unit) = (TLV t.ls, t.has, t.ex, ()) ∧ (-9223372036854775808 ≤ t.ex ∧ t.ex ≤ 9223372036854775807) ∧ t.ls.length ≤ 9223372036854775807 := by
 refine ⟨⟨ls.map fun x => (x.1, x.2.1, x.2.2.1), has, ex⟩, ?_, wfT h3, by simpa using h1⟩
 unfold TLV
 rw [List.map_map]; rfl
theorem table_in (a : akT.T) (h : akT.good a) : ∃ t : Tb, (akT.DV a : List V × Bool × Int × Unit) = (TLV t.ls, t.has, t.ex, ()) ∧ (-9223372036854775808 ≤ t.ex ∧ t.ex ≤ 9223372036854775807) ∧ t.ls.length ≤ 9223372036854775807 := by
 obtain ⟨ls, has, ex, u⟩ := a
 obtain ⟨h1, h2, h3, h4⟩ := h
 exact table_of ls has ex h1.1 h3
end Go.Proofs.YtenaflbcnkalbaaGreatDoor
end
section
set_option linter.unusedVariables false
set_option linter.unusedSimpArgs false
namespace Go.Proofs.YtenaflbcnkalbaaGreatDoor
open Go Go.Proofs.YtenaflbcnkalbaaGreatDoor.Eng Go.Proofs.YtenaflbcnkalbaaGreatDoor.Pl
theorem pureRightTells : PureRightTells := by
 intro a0 h0 a1 h1 a2 h2
 obtain ⟨z, hz, e⟩ := zone_in a0 h0
 obtain ⟨t, e', hx, _⟩ := table_in a1 h1
 rw [show (akRightTells0.DV a0 : List V × List V × List V × ByteArray × Int × Unit) = tupZ z from e, show (akRightTells1.DV a1 : List V × Bool × Int × Unit) = tupB t from e']
 exact lRightTells z hz t _ (wfI h2) rfl
end Go.Proofs.YtenaflbcnkalbaaGreatDoor
end
