/- What the functions come to in plain data, with proofs, and what that answers. -/
import Derived.Test.YtmbdcbfandebhaaGreatDoorJZoneHolds1
section
set_option linter.unusedVariables false
set_option linter.unusedSimpArgs false
namespace Go.Proofs.YtmbdcbfandebhaaGreatDoor
open Go Go.Proofs.YtmbdcbfandebhaaGreatDoor.Eng Go.Proofs.YtmbdcbfandebhaaGreatDoor.Pl
set_option linter.unusedVariables false
set_option linter.unusedSimpArgs false
set_option maxRecDepth 100000
set_option maxHeartbeats 2000000

/-- From one second to the next the index stays, or one change is passed. -/
theorem ix_next {z : Zn} (h : ZR z) (a : Int) :
    (indexN z (a - 1) = indexN z a) ∨ (∃ hm : indexN z a - 1 < z.tr.length, indexN z a = indexN z (a - 1) + 1 ∧ (z.tr[indexN z a - 1]).1 = a) := by
  have hst := (trOk_all _ _ _ h.all.2.2.2.2.1).2
  have hle := fl_le (fun c : Rec => decide (c.1 > a)) z.tr
  have hsp := fl_spec (fun c : Rec => decide (c.1 > a)) z.tr
  unfold indexN
  generalize Pl.fl (fun c : Rec => decide (c.1 > a)) z.tr = m at *
  by_cases hx : ∃ hm : m - 1 < z.tr.length, 0 < m ∧ (z.tr[m - 1]).1 = a
  · obtain ⟨hm, h0, he⟩ := hx
    refine .inr ⟨hm, ?_, he⟩
    have : Pl.fl (fun c : Rec => decide (c.1 > a - 1)) z.tr = m - 1 := fl_of _ _ _ (by omega)
      (fun i hi him => by
        have := hst i (m - 1) hi hm (by omega)
        simp only [decide_eq_false_iff_not]; omega)
      (fun hi => by simp only [decide_eq_true_eq]; omega)
    omega
  · refine .inl (fl_of _ _ _ hle (fun i hi him => ?_) (fun hi => ?_))
    · have q := (hsp i hi).1 him
      simp only [decide_eq_false_iff_not] at q ⊢
      by_cases e : i = m - 1
      · have : (z.tr[i]).1 ≠ a := fun hc => hx ⟨by omega, by omega, by subst e; exact hc⟩
        omega
      · have := hst i (m - 1) hi (by omega) (by omega)
        have q2 := (hsp (m - 1) (by omega)).1 (by omega)
        simp only [decide_eq_false_iff_not] at q2
        omega
    · have q := (hsp m hi).2 rfl
      simp only [decide_eq_true_eq] at q ⊢; omega
theorem lookZ_ix {z : Zn} (hf : z.ft = []) {a b : Int} (h : indexN z a = indexN z b) : lookZ z a = lookZ z b := by
  unfold lookZ
  rw [if_neg (fun hh => hh.1 hf), if_neg (fun hh => hh.1 hf), h]
theorem hTail (z : Zn) (hR : ZR z) (hf : z.ft = []) (a : Int) (h1 : -1152921504606846976 < a) (h2 : a ≤ 1152921504606846976) (t : Ty) (ht : lookZ z a = t) (K : Bool → Prop) (hk : K true) :
    Xzone_Index (tupZ z) (w64 (a - 1)) (fun r15 =>
 (if (true : Bool) then
 Xzone_Lookup (tupZ z) a (fun r16 =>
 (lt (r16.1 == t.1 && (r16.2.1 == t.2.1 && (ByteArray.toList r16.2.2.1 == ByteArray.toList (S t.2.2) && true))) fun v17 =>
 (if v17 then
 (if (r15 == (indexN z a : Int) - 1) then
 (if (r15 != (indexN z a : Int) - 1) then
 K true
 else
 Xzone_Lookup (tupZ z) (w64 (a - 1)) (fun r18 =>
 (lt (r18.1 == t.1 && (r18.2.1 == t.2.1 && (ByteArray.toList r18.2.2.1 == ByteArray.toList (S t.2.2) && true))) fun v19 =>
 K v19)))
 else
 (if (r15 == w64 ((indexN z a : Int) - 1 - 1)) then
 (if 0 ≤ (indexN z a : Int) - 1 ∧ (indexN z a : Int) - 1 < (z.tr.length : Int) then
 (Eng.asInt IntKind.i64 (Eng.getC (RV z.tr) (Int.toNat ((indexN z a : Int) - 1)) (0 : Nat)) False fun n20 =>
 (if (n20 == a) then
 (if (r15 != (indexN z a : Int) - 1) then
 K true
 else
 Xzone_Lookup (tupZ z) (w64 (a - 1)) (fun r21 =>
 (lt (r21.1 == t.1 && (r21.2.1 == t.2.1 && (ByteArray.toList r21.2.2.1 == ByteArray.toList (S t.2.2) && true))) fun v22 =>
 K v22)))
 else
 K false))
 else
 False)
 else
 K false))
 else
 K false)))
 else
 K false)) := by
  have hz := hR.toZI
  have e1 : w64 (a - 1) = a - 1 := w64_in (by omega) (by omega)
  rw [e1]
  refine zIndex z hz hR.st (a - 1) ?_
  rw [if_pos rfl]
  refine zLookup z hR a ?_
  rw [ht]
  simp only [lt]
  rw [if_pos (tyE t)]
  have hle : indexN z a ≤ z.tr.length := fl_le _ z.tr
  have htr := hz.tr
  rcases ix_next hR a with e | ⟨hm, e, he⟩
  · rw [if_pos (by simp [e]), if_neg (by simp [e])]
    refine zLookup z hR (a - 1) ?_
    rw [lookZ_ix hf e, ht, tyE t]
    exact hk
  · have e2 : w64 ((indexN z a : Int) - 1 - 1) = (indexN z (a - 1) : Int) - 1 := by rw [w64_in (by omega) (by omega)]; omega
    rw [if_neg (by simp; omega), e2, if_pos (by simp), if_pos (by omega)]
    have e3 : Int.toNat ((indexN z a : Int) - 1) = indexN z a - 1 := by omega
    rw [e3]
    refine asR1 hm ?_
    rw [he, if_pos (by simp), if_pos (by simp; omega)]
    exact hk
theorem look_0 {z : Zn} (hf : z.ft = []) {a : Int} (hm : indexN z a = 0) (h1 : 0 < z.ty.length) : lookZ z a = z.ty[0] := by
  unfold lookZ
  rw [if_neg (fun hh => hh.1 hf), hm]
  simp only [List.take_zero, List.getLast?_nil]
  exact headD_at z.ty (0, false, []) h1
theorem look_s {z : Zn} (hf : z.ft = []) {a : Int} (hm : indexN z a ≠ 0) (hle : indexN z a ≤ z.tr.length) (hk : indexN z a - 1 < z.tr.length) (h1 : ((z.tr[indexN z a - 1]).2).toNat < z.ty.length) : lookZ z a = z.ty[((z.tr[indexN z a - 1]).2).toNat] := by
  unfold lookZ
  have hl : (z.tr.take (indexN z a)).getLast? = some (z.tr[indexN z a - 1]'(by omega)) := by
    rw [List.getLast?_eq_getElem?, List.length_take, Nat.min_eq_left hle, List.getElem?_take, if_pos (by omega), List.getElem?_eq_getElem (by omega)]
  rw [if_neg (fun hh => hh.1 hf), hl]
  simp only
  exact getD_at z.ty _ _ h1
theorem zoneHolds_K (z : Zn) (hg : ZG z) (a : Int) (K : Bool → Prop) (hk : K true) : Xepactlaw19_ZoneHolds (tupZ z) a K := by
  show Xepactlaw19_ZoneHolds (TV z.ty, RV z.tr, RV z.lp, S z.ft, z.v, ()) a _
  unfold Xepactlaw19_ZoneHolds Yepactlaw19_ZoneHolds
  dsimp only
  refine zsmall ?_
  refine sFew z hg.tl (fun hf => ?_) ?_
  rotate_left
  · rw [if_pos (show (!false) = true from rfl)]; exact hk
  rw [if_neg (by simp), S_nil]
  have hz := hg.zi hf
  cases hft : z.ft.isEmpty
  · rw [if_pos (show (!false) = true from rfl)]; exact hk
  rw [if_neg (by simp)]
  have hne : z.ft = [] := by
    cases hz : z.ft with
    | nil => rfl
    | cons x r => rw [hz] at hft; cases hft
  refine sRight z hz ?_
  cases hr : zoneRight z
  · rw [if_pos (show (!false) = true from rfl)]; exact hk
  rw [if_neg (by simp)]
  have hR : ZR z := ⟨hz, hr⟩
  by_cases a1 : a ≤ -1152921504606846976
  · rw [if_pos (decide_eq_true a1)]; exact hk
  rw [if_neg (by simpa using a1)]
  by_cases a2 : a > 1152921504606846976
  · rw [if_pos (decide_eq_true a2)]; exact hk
  rw [if_neg (by simpa using a2)]
  refine zIndex z hz hR.st a ?_
  have hle : indexN z a ≤ z.tr.length := fl_le _ z.tr
  have hsp : ∀ (j : Nat) (h : j < z.tr.length), (j < indexN z a → decide ((z.tr[j]).1 > a) = false) ∧ (j = indexN z a → decide ((z.tr[j]).1 > a) = true) := fl_spec (fun c : Rec => decide (c.1 > a)) z.tr
  have htr := hz.tr
  have h1 := hR.one
  have tail := hTail z hR hne a (by omega) (by omega) _ rfl K hk
  have e1 : w64 ((indexN z a : Int) - 1 + 1) = (indexN z a : Int) := by rw [w64_in (by omega) (by omega)]; omega
  simp only [RV_len, TV_len, e1]
  rw [if_neg (by simp; omega), if_neg (by simp; omega)]
  generalize hL : lookZ z a = L at *
  by_cases hm : indexN z a = 0
  · have l0 : L = z.ty[0]'(by omega) := by
      rw [← hL]; exact look_0 hne hm (by omega)
    rw [if_neg (by simp; omega)]
    by_cases h0 : indexN z a < z.tr.length
    · have q := (hsp _ h0).2 rfl
      simp only [decide_eq_true_eq] at q
      rw [if_pos (by simp; omega), if_pos (by omega), show Int.toNat (indexN z a : Int) = indexN z a by omega]
      refine asR1 h0 ?_
      rw [if_neg (by simp; omega), if_pos (by omega)]
      refine asT1 (by omega) (asT2 (by omega) (asT3 (by omega) ?_))
      rw [if_neg (by simp; omega)]
      rw [l0] at tail; exact tail
    · rw [if_neg (by simp; omega), if_pos (by omega)]
      refine asT1 (by omega) (asT2 (by omega) (asT3 (by omega) ?_))
      rw [if_neg (by simp; omega)]
      rw [l0] at tail; exact tail
  · have hkk : indexN z a - 1 < z.tr.length := by omega
    obtain ⟨_, q1, q2⟩ := (trOk_all _ _ _ hR.all.2.2.2.2.1).1 (indexN z a - 1) hkk
    have l0 : L = z.ty[((z.tr[indexN z a - 1]).2).toNat]'(by omega) := by
      rw [← hL]; exact look_s hne hm hle (by omega) (by omega)
    have q := (hsp _ hkk).1 (by omega)
    simp only [decide_eq_false_iff_not] at q
    have e3 : Int.toNat ((indexN z a : Int) - 1) = indexN z a - 1 := by omega
    rw [if_pos (by simp; omega), if_pos (by omega), e3]
    refine asR1 hkk ?_
    rw [if_neg (by simp; omega)]
    rw [e3] at tail
    by_cases h0 : indexN z a < z.tr.length
    · have q := (hsp _ h0).2 rfl
      simp only [decide_eq_true_eq] at q
      rw [if_pos (by simp; omega), if_pos (by omega), show Int.toNat (indexN z a : Int) = indexN z a by omega]
      refine asR1 h0 ?_
      rw [if_neg (by simp; omega), if_pos (by omega)]
      refine asT1 (by omega) (asT2 (by omega) (asT3 (by omega) ?_))
      rw [if_pos (by simp; omega), if_pos (by omega)]
      refine asR2 hkk ?_
      rw [if_pos ⟨q1, q2⟩]
      refine asT1 (by omega) (asT2 (by omega) (asT3 (by omega) ?_))
      rw [l0] at tail; exact tail
    · rw [if_neg (by simp; omega), if_pos (by omega)]
      refine asT1 (by omega) (asT2 (by omega) (asT3 (by omega) ?_))
      rw [if_pos (by simp; omega), if_pos (by omega)]
      refine asR2 hkk ?_
      rw [if_pos ⟨q1, q2⟩]
      refine asT1 (by omega) (asT2 (by omega) (asT3 (by omega) ?_))
      rw [l0] at tail; exact tail
theorem lZoneHolds (z : Zn) (hg : ZG z) (a : Int) : Xepactlaw19_ZoneHolds (tupZ z) a (fun b => b = true) := zoneHolds_K z hg a _ rfl
end Go.Proofs.YtmbdcbfandebhaaGreatDoor
end
section
set_option linter.unusedVariables false
set_option linter.unusedSimpArgs false
namespace Go.Proofs.YtmbdcbfandebhaaGreatDoor
open Go Go.Proofs.YtmbdcbfandebhaaGreatDoor.Eng Go.Proofs.YtmbdcbfandebhaaGreatDoor.Pl
theorem pureZoneHolds : PureZoneHolds := by
  intro a0 h0 a1 h1
  obtain ⟨z, hz, e⟩ := zone_in a0 h0
  rw [show (akZoneHolds0.DV a0 : Q5) = tupZ z from e]
  exact lZoneHolds z hz _
end Go.Proofs.YtmbdcbfandebhaaGreatDoor
end
