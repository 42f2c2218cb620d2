/- What the functions come to in plain data, with proofs, and what that answers. -/
import Derived.Test.YtmbdcbfandebhaaGreatDoorJZonePosix1
section
set_option linter.unusedVariables false
set_option linter.unusedSimpArgs false
namespace Go.Proofs.YtmbdcbfandebhaaGreatDoor
open Go Go.Proofs.YtmbdcbfandebhaaGreatDoor.Eng Go.Proofs.YtmbdcbfandebhaaGreatDoor.Pl
set_option linter.unusedVariables false
set_option linter.unusedSimpArgs false
set_option maxRecDepth 100000
set_option maxHeartbeats 2000000

def prevR (b : Rec) (l : List Rec) (i : Nat) : Rec := if i = 0 then b else l.getD (i - 1) (0, 0)
theorem recOk_at : ∀ (l : List Rec) (k : Nat) (b : Rec), recOk k b l = true → ∀ (i : Nat) (h : i < l.length),
    ((l[i]).2 - (prevR b l i).2 = 0 ∧ i + 1 = l.length) ∨ (((l[i]).2 - (prevR b l i).2 = 1 ∨ (l[i]).2 - (prevR b l i).2 = -1) ∧ (k + i = 0 ∨ (l[i]).1 - (prevR b l i).1 ≥ 2419199))
  | [], k, b, h, i, hi => by simp at hi
  | c :: r, k, b, h, i, hi => by
    obtain ⟨⟨h1, h2, h3, h4⟩, h5⟩ := (recOk_cons k b c r).1 h
    cases i with
    | zero =>
      simp only [prevR, if_true, List.getElem_cons_zero, List.length_cons]
      by_cases e : c.2 - b.2 = 0 ∧ r = []
      · exact .inl ⟨e.1, by rw [e.2]; rfl⟩
      · refine .inr ⟨?_, ?_⟩
        · rcases h3 with h3 | h3
          · exact absurd h3 e
          · exact h3
        · rcases h4 with h4 | h4 | h4
          · exact .inl (by omega)
          · exact absurd h4.1 e
          · exact .inr h4.2
    | succ i =>
      have ih := recOk_at r (k + 1) c h5 i (by simpa using hi)
      have hp : prevR b (c :: r) (i + 1) = prevR c r i := by
        unfold prevR
        rw [if_neg (by omega)]
        cases i with
        | zero => rfl
        | succ i => rfl
      rw [hp]
      simp only [List.getElem_cons_succ, List.length_cons]
      rcases ih with ih | ih
      · exact .inl ⟨ih.1, by omega⟩
      · exact .inr ⟨ih.1, ih.2.imp (fun h => by omega) id⟩
/-- The sum behind so many records. -/
def sm (l : List Rec) (m : Nat) : Int := if m = 0 then 0 else (l.getD (m - 1) (0, 0)).2
theorem leaps_at {l : List Rec} (h : recRight l = true) (i : Nat) (hi : i < (leapsR l).length) :
    (sm (leapsR l) (i + 1) - sm (leapsR l) i = 1 ∨ sm (leapsR l) (i + 1) - sm (leapsR l) i = -1) ∧ 0 ≤ ((leapsR l)[i]).1 ∧ (∀ j (hj : j < (leapsR l).length), i < j → ((leapsR l)[i]).1 < ((leapsR l)[j]).1) := by
  have hl := leapsR_len l
  have hil : i < l.length := by rw [hl] at hi; split at hi <;> omega
  have get : ∀ j (hj : j < (leapsR l).length), (leapsR l)[j] = l[j]'(by rw [hl] at hj; split at hj <;> omega) := fun j hj => by
    unfold leapsR
    by_cases e : lastExp l = true
    · simp only [e, if_true, List.getElem_take]
    · simp only [e, if_false]; rfl
  have getd : ∀ j, j < (leapsR l).length → (leapsR l).getD j (0, 0) = l.getD j (0, 0) := fun j hj => by
    rw [getD_at _ _ _ hj, get j hj, getD_at l]
  have key : ∀ j (hj : j < (leapsR l).length), ((l[j]'(by rw [hl] at hj; split at hj <;> omega)).2 - (prevR (-2419199, 0) l j).2 = 1 ∨ (l[j]'(by rw [hl] at hj; split at hj <;> omega)).2 - (prevR (-2419199, 0) l j).2 = -1) ∧ (j = 0 ∨ (l[j]'(by rw [hl] at hj; split at hj <;> omega)).1 - (prevR (-2419199, 0) l j).1 ≥ 2419199) := fun j hj => by
    have hjl : j < l.length := by rw [hl] at hj; split at hj <;> omega
    rcases recOk_at l 0 (-2419199, 0) h j hjl with ⟨e1, e2⟩ | ⟨e1, e2⟩
    · exfalso
      have : lastExp l = true := by
        unfold lastExp
        unfold prevR at e1
        by_cases j0 : j = 0
        · rw [if_pos j0] at e1
          subst j0
          have g := getD_at l 0 (0, 0) hjl
          rw [g]
          simp only [Bool.or_eq_true, Bool.and_eq_true, decide_eq_true_eq, beq_iff_eq]
          exact .inl ⟨by omega, by simpa using e1⟩
        · rw [if_neg j0] at e1
          have g := getD_at l (l.length - 1) (0, 0) (by omega)
          have ej : l.length - 1 = j := by omega
          have ej2 : l.length - 2 = j - 1 := by omega
          simp only [Bool.or_eq_true, Bool.and_eq_true, decide_eq_true_eq, beq_iff_eq]
          refine .inr ⟨by omega, ?_⟩
          rw [ej, ej2, getD_at l j _ hjl]; omega
      rw [hl, if_pos this] at hj
      omega
    · exact ⟨e1, e2.imp (fun h => by omega) id⟩
  refine ⟨?_, ?_, ?_⟩
  · have := (key i hi).1
    unfold sm
    rw [if_neg (by omega), Nat.add_sub_cancel, getd i hi, getD_at l i _ hil]
    unfold prevR at this
    by_cases i0 : i = 0
    · rw [if_pos i0] at this ⊢; exact this
    · rw [if_neg i0] at this ⊢
      rw [getd (i - 1) (by omega)]; exact this
  · rw [get i hi]; exact ((recOk_all l 0 _ h).1 i hil).2
  · intro j hj hij
    have hjl : j < l.length := by rw [hl] at hj; split at hj <;> omega
    have := (key j hj).2
    have hs := srt_rec h i (j - 1) hil (by omega) (by omega)
    unfold prevR at this
    rw [if_neg (show ¬ j = 0 by omega), getD_at l (j - 1) _ (by omega)] at this
    rw [get i hi, get j hj]
    rcases this with h0 | h0
    · omega
    · omega
theorem sm_bd {l : List Rec} (h : recRight l = true) : ∀ m, m ≤ (leapsR l).length → -(m : Int) ≤ sm (leapsR l) m ∧ sm (leapsR l) m ≤ m
  | 0, _ => by simp [sm]
  | m + 1, hm => by
    have ih := sm_bd h m (by omega)
    have := (leaps_at h m (by omega)).1
    omega
theorem sumR_sm (l : List Rec) (a : Int) : sumR l a = sm (leapsR l) (Pl.fl (fun c : Rec => decide (c.1 > a)) (leapsR l)) := by
  have hle := fl_le (fun c : Rec => decide (c.1 > a)) (leapsR l)
  unfold sumR sm
  generalize Pl.fl (fun c : Rec => decide (c.1 > a)) (leapsR l) = m at *
  by_cases m0 : m = 0
  · subst m0; rfl
  · rw [if_neg m0]
    have : ((leapsR l).take m).getLast? = some ((leapsR l)[m - 1]'(by omega)) := by
      rw [List.getLast?_eq_getElem?, List.length_take, Nat.min_eq_left hle, List.getElem?_take, if_pos (by omega), List.getElem?_eq_getElem (by omega)]
    rw [this, getD_at _ _ _ (by omega)]
/-- From one second to the next: nothing turns, or one record is passed. -/
theorem sum_next {l : List Rec} (h : recRight l = true) (a : Int) :
    let m' := Pl.fl (fun c : Rec => decide (c.1 ≥ a)) (leapsR l)
    (∃ hm : m' < (leapsR l).length, ((leapsR l)[m']).1 = a ∧ sumR l a = sm (leapsR l) (m' + 1) ∧ sumR l (a - 1) = sm (leapsR l) m') ∨ ((∀ hm : m' < (leapsR l).length, ((leapsR l)[m']).1 ≠ a) ∧ sumR l a = sm (leapsR l) m' ∧ sumR l (a - 1) = sm (leapsR l) m') := by
  intro m'
  have hle := fl_le (fun c : Rec => decide (c.1 ≥ a)) (leapsR l)
  have hsp := fl_spec (fun c : Rec => decide (c.1 ≥ a)) (leapsR l)
  have hm : Pl.fl (fun c : Rec => decide (c.1 ≥ a)) (leapsR l) = m' := rfl
  rw [hm] at hle hsp
  have e1 : Pl.fl (fun c : Rec => decide (c.1 > a - 1)) (leapsR l) = m' := fl_of _ _ _ hle
    (fun i hi him => by have := (hsp i hi).1 him; simp only [decide_eq_false_iff_not] at this ⊢; omega)
    (fun hi => by have := (hsp m' hi).2 rfl; simp only [decide_eq_true_eq] at this ⊢; omega)
  rw [sumR_sm l a, sumR_sm l (a - 1), e1]
  by_cases hx : ∃ hm : m' < (leapsR l).length, ((leapsR l)[m']).1 = a
  · obtain ⟨hlt, he⟩ := hx
    refine .inl ⟨hlt, he, ?_, rfl⟩
    have : Pl.fl (fun c : Rec => decide (c.1 > a)) (leapsR l) = m' + 1 := fl_of _ _ _ (by omega)
      (fun i hi him => by
        simp only [decide_eq_false_iff_not]
        by_cases ei : i = m'
        · subst ei; omega
        · have := (leaps_at h i hi).2.2 m' hlt (by omega); omega)
      (fun hi => by
        have := (leaps_at h m' hlt).2.2 (m' + 1) hi (by omega)
        simp only [decide_eq_true_eq]; omega)
    rw [this]
  · refine .inr ⟨fun hlt he => hx ⟨hlt, he⟩, ?_, rfl⟩
    have : Pl.fl (fun c : Rec => decide (c.1 > a)) (leapsR l) = m' := fl_of _ _ _ hle
      (fun i hi him => by have := (hsp i hi).1 him; simp only [decide_eq_false_iff_not] at this ⊢; omega)
      (fun hi => by
        have := (hsp m' hi).2 rfl
        have hne : ((leapsR l)[m']).1 ≠ a := fun he => hx ⟨hi, he⟩
        simp only [decide_eq_true_eq] at this ⊢; omega)
    rw [this]
theorem sSearchT (l : List Rec) (hs : Srt l) (hl : l.length ≤ 100000) (o f : Bool) (a : Int) {K} (h : ∀ o f, K (Pl.fl (fun c : Rec => decide (c.1 ≥ a)) l : Int) a (RV l) o f) : Xsort_Search_2 (l.length : Int) a (RV l) o f K := by
  unfold Xsort_Search_2 Ysort_Search_2
  refine lp_ind (fun x => (x.1.2.2.2.1 - x.1.2.2.1).toNat) (fun x => ∃ (i j : Nat) (y : List V × Bool × Bool), Bin (fun c : Rec => decide (c.1 ≥ a)) l i j ∧ x = ((((), (), (), ()), (0 : Int), (i : Int), (j : Int), ()), (RV l, ()), (a, ()), y, ())) ?_ ⟨0, l.length, _, ⟨by omega, by omega, fun t ht h => by omega, fun t ht h => by omega⟩, rfl⟩
  rintro x ⟨i, j, y, hb, rfl⟩ k hk
  obtain ⟨b1, b2, _, _⟩ := id hb
  unfold Lsort_Search_2_0
  simp only [decide_eq_true_eq]
  by_cases e : i = j
  · subst e
    rw [if_neg (by omega)]
    have := h false true
    rw [hb.fl] at this; exact this
  · rw [if_pos (by omega)]
    simp only [lt]
    rw [half (by omega)]
    have hlt : (i + j) / 2 < l.length := by omega
    unfold Xrecord_Step_1_1 Yrecord_Step_1_1
    rw [RV_len, if_pos (by omega), Int.toNat_natCast]
    refine asR1 hlt ?_
    dsimp only
    have e1 : w64 ((((i + j) / 2 : Nat) : Int) + 1) = (((i + j) / 2 + 1 : Nat) : Int) := by rw [w64_in (by omega) (by omega)]; omega
    cases hq : decide ((l[(i + j) / 2]).1 ≥ a)
    · rw [if_pos (show (!false) = true from rfl), e1]
      refine hk _ ⟨(i + j) / 2 + 1, j, _, hb.low (ge_mono hs a) (by omega) (by omega) hlt hq, rfl⟩ ?_
      show ((j : Int) - (((i + j) / 2 + 1 : Nat) : Int)).toNat < ((j : Int) - (i : Int)).toNat
      omega
    · rw [if_neg (by simp)]
      refine hk _ ⟨i, (i + j) / 2, _, hb.high (ge_mono hs a) (by omega) (by omega) hlt hq, rfl⟩ ?_
      show ((((i + j) / 2 : Nat) : Int) - (i : Int)).toNat < ((j : Int) - (i : Int)).toNat
      omega
theorem zStep (l : List Rec) (h : recRight l = true) (hl : l.length ≤ 1000) (a : Int) {K : Int → Prop} (hk : K (sumR l a - sumR l (a - 1))) : Xrecord_Step (RV l) a K := by
  unfold Xrecord_Step Yrecord_Step
  refine sLeaps l (by omega) ?_
  rw [RV_len]
  have hl2 : (leapsR l).length ≤ 1000 := by rw [leapsR_len]; split <;> omega
  refine sSearchT (leapsR l) (srt_leaps (srt_rec h)) (by omega) _ _ _ fun o f => ?_
  have hle := fl_le (fun c : Rec => decide (c.1 ≥ a)) (leapsR l)
  have hx := sum_next h a
  simp only at hx
  generalize Pl.fl (fun c : Rec => decide (c.1 ≥ a)) (leapsR l) = m at *
  rw [RV_len]
  simp only [beq_iff_eq, bne_iff_ne]
  by_cases em : m = (leapsR l).length
  · rw [if_pos (by omega)]
    rcases hx with ⟨hm, _⟩ | ⟨_, q1, q2⟩
    · omega
    · rw [q1, q2] at hk; simpa using hk
  · have hm : m < (leapsR l).length := by omega
    rw [if_neg (by omega), if_pos (by omega), Int.toNat_natCast]
    refine asR1 hm ?_
    rcases hx with ⟨_, he, q1, q2⟩ | ⟨hno, q1, q2⟩
    · rw [if_neg (by simpa using he)]
      rw [q1, q2] at hk
      have hb1 := sm_bd h m (by omega)
      have hb2 := sm_bd h (m + 1) (by omega)
      have hs1 : sm (leapsR l) (m + 1) = ((leapsR l)[m]).2 := by
        unfold sm; rw [if_neg (by omega), Nat.add_sub_cancel, getD_at _ _ _ hm]
      by_cases m0 : m = 0
      · rw [if_pos (by omega), if_pos (by omega)]
        subst m0
        refine asR2 (by omega) ?_
        rw [hs1] at hk
        simpa [sm] using hk
      · rw [if_neg (by omega), if_pos (by omega)]
        refine asR2 hm ?_
        have e1 : w64 ((m : Int) - 1) = ((m - 1 : Nat) : Int) := by rw [w64_in (by omega) (by omega)]; omega
        rw [e1, if_pos (by omega), Int.toNat_natCast]
        refine asR2 (by omega) ?_
        have hs0 : sm (leapsR l) m = ((leapsR l)[m - 1]'(by omega)).2 := by
          unfold sm; rw [if_neg m0, getD_at _ _ _ (by omega)]
        rw [← hs1, ← hs0, w64_in (by omega) (by omega)]
        exact hk
    · rw [if_pos (by simpa using hno hm)]
      rw [q1, q2] at hk; simpa using hk
theorem sum_bd {z : Zn} (h : ZR z) (a : Int) : -300 ≤ sumR z.lp a ∧ sumR z.lp a ≤ 300 := by
  have hr := h.all.2.1
  have hl := h.lp
  rw [sumR_sm]
  have hle := fl_le (fun c : Rec => decide (c.1 > a)) (leapsR z.lp)
  have h2 := leapsR_len z.lp
  have := sm_bd hr _ hle
  split at h2 <;> omega
theorem posix_in {z : Zn} (h : ZR z) (a : Int) (h1 : -1152921504606846976 ≤ a) (h2 : a ≤ 1152921504606846976) : posixR z a = a - sumR z.lp a := by
  have := sum_bd h a
  unfold posixR
  exact w64_in (by omega) (by omega)
theorem lZonePosix (z : Zn) (hg : ZG z) (a : Int) : Xepactlaw19_ZonePosix (tupZ z) a (fun b => b = true) := by
  show Xepactlaw19_ZonePosix (TV z.ty, RV z.tr, RV z.lp, S z.ft, z.v, ()) a _
  unfold Xepactlaw19_ZonePosix Yepactlaw19_ZonePosix
  dsimp only
  refine zsmall ?_
  refine sFew z hg.tl (fun hf => ?_) ?_
  rotate_left
  · rw [if_pos (show (!false) = true from rfl)]
  rw [if_neg (by simp)]
  have hz := hg.zi hf
  refine sRight z hz ?_
  cases hr : zoneRight z
  · rw [if_pos (show (!false) = true from rfl)]
  rw [if_neg (by simp)]
  have hR : ZR z := ⟨hz, hr⟩
  by_cases a1 : a ≤ -1152921504606846976
  · rw [if_pos (decide_eq_true a1)]
  rw [if_neg (by simpa using a1)]
  by_cases a2 : a > 1152921504606846976
  · rw [if_pos (decide_eq_true a2)]
  rw [if_neg (by simpa using a2)]
  have e1 : w64 (a - 1) = a - 1 := w64_in (by omega) (by omega)
  rw [e1]
  refine zPosix z hR a ?_
  refine zPosix z hR (a - 1) ?_
  rw [if_pos rfl]
  have hrr := hR.all.2.1
  refine zStep z.lp hrr (by have := hz.lp; omega) a ?_
  have hb1 := sum_bd hR a
  have hb2 := sum_bd hR (a - 1)
  rw [posix_in hR a (by omega) (by omega), posix_in hR (a - 1) (by omega) (by omega)]
  have hd : sumR z.lp a - sumR z.lp (a - 1) = 0 ∨ sumR z.lp a - sumR z.lp (a - 1) = 1 ∨ sumR z.lp a - sumR z.lp (a - 1) = -1 := by
    have hx := sum_next hrr a
    simp only at hx
    rcases hx with ⟨hm, he, q1, q2⟩ | ⟨_, q1, q2⟩
    · have := (leaps_at hrr _ hm).1
      rw [q1, q2]; exact .inr this
    · rw [q1, q2]; exact .inl (by omega)
  have e2 : w64 (a - sumR z.lp a - (a - 1 - sumR z.lp (a - 1))) = 1 - (sumR z.lp a - sumR z.lp (a - 1)) := by rw [w64_in (by omega) (by omega)]; omega
  have e3 : w64 (1 - (sumR z.lp a - sumR z.lp (a - 1))) = 1 - (sumR z.lp a - sumR z.lp (a - 1)) := w64_in (by omega) (by omega)
  rw [e2, e3, if_pos (beq_self_eq_true _), if_pos (by simp; omega), if_pos (by simp; omega)]
  by_cases a3 : a ≥ 0
  · rw [if_pos (decide_eq_true a3)]
  · rw [if_neg (by simpa using a3)]
    refine zPosix z hR a ?_
    rw [posix_in hR a (by omega) (by omega)]
    have : sumR z.lp a = 0 := by
      rw [sumR_sm]
      have : Pl.fl (fun c : Rec => decide (c.1 > a)) (leapsR z.lp) = 0 := fl_of _ _ _ (by omega) (fun i hi h0 => by omega) fun hi => by
        have := (leaps_at hrr 0 hi).2.1
        simp only [decide_eq_true_eq]; omega
      rw [this]; rfl
    rw [this]
    simp
end Go.Proofs.YtmbdcbfandebhaaGreatDoor
end
section
set_option linter.unusedVariables false
set_option linter.unusedSimpArgs false
namespace Go.Proofs.YtmbdcbfandebhaaGreatDoor
open Go Go.Proofs.YtmbdcbfandebhaaGreatDoor.Eng Go.Proofs.YtmbdcbfandebhaaGreatDoor.Pl
theorem pureZonePosix : PureZonePosix := by
  intro a0 h0 a1 h1
  obtain ⟨z, hz, e⟩ := zone_in a0 h0
  rw [show (akZonePosix0.DV a0 : Q5) = tupZ z from e]
  exact lZonePosix z hz _
end Go.Proofs.YtmbdcbfandebhaaGreatDoor
end
