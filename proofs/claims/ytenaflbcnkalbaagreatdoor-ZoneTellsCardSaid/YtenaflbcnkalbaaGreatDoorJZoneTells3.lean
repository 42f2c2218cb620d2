/- What the functions come to in plain data, with proofs, and what that answers. -/
import Derived.Test.YtenaflbcnkalbaaGreatDoorJZoneTells2
section
set_option linter.unusedVariables false
set_option linter.unusedSimpArgs false
namespace Go.Proofs.YtenaflbcnkalbaaGreatDoor
open Go Go.Proofs.YtenaflbcnkalbaaGreatDoor.Eng Go.Proofs.YtenaflbcnkalbaaGreatDoor.Pl
set_option linter.unusedVariables false
set_option linter.unusedSimpArgs false
set_option maxRecDepth 100000
set_option maxHeartbeats 4000000
theorem qHead (v l t y c : Int) {K : Bool → Prop} (h : K (nin l 0 201 && nin t 0 2000 && nin y 1 64 && nin c 1 256 && nin v 1 4)) : Xepactref15_Right (v, 0, 0, l, t, y, c, ()) K := by
  unfold Xepactref15_Right Yepactref15_Right
  have hb : ∀ b, b = (nin l 0 201 && nin t 0 2000 && nin y 1 64 && nin c 1 256 && nin v 1 4) → K b := fun b e => e ▸ h
  unfold nin at hb
  dsimp only
  simp only [decide_eq_true_eq, show ((0 : Int) == 0) = true from rfl, if_true]
  repeat' split
  all_goals first
    | (refine hb _ ?_; symm; rw [Bool.eq_false_iff]; simp only [ne_eq, Bool.and_eq_true, decide_eq_true_eq]; omega)
    | (refine hb _ ?_; symm; simp only [Bool.and_eq_true, decide_eq_true_eq]; omega)
theorem qCount (z : Zn) (h : ZI z) {K : Int × Int × Int × Int × Int × Int × Int × Unit → Bool → Prop} (hk : ∀ r, K r (countOk z)) : Xepactref16_Count (tupZ z) K := by
  show Xepactref16_Count (TV z.ty, RV z.tr, RV z.lp, S z.ft, z.v, ()) K
  unfold Xepactref16_Count Yepactref16_Count
  have hk1 : ∀ r b, b = countOk z → K r b := fun r b e => e ▸ hk r
  refine qNames z (by have := h.ty; omega) ?_
  refine qPool _ (by have := h.ty; simp; omega) (fun s hs => ?_) (fun p at' o y hp ha hs => ?_) fun ha p at' o y => ?_
  · obtain ⟨t, ht, rfl⟩ := List.mem_map.1 hs
    have := h.nm t ht; omega
  · rw [if_neg (by simp)]
    dsimp only
    rw [RV_len, RV_len, TV_len]
    refine qHead _ _ _ _ _ ?_
    have e : countOk z = (nin z.lp.length 0 201 && nin z.tr.length 0 2000 && nin z.ty.length 1 64 && nin (poolN [] (z.ty.map (·.2.2)) : Nat) 1 256 && nin z.v 1 4) := by
      unfold countOk
      rw [ha, Bool.true_and]
    rw [hs, ← e]
    cases hb : countOk z
    · rw [if_pos (show (!false) = true from rfl)]; exact hk1 _ _ hb.symm
    · rw [if_neg (by simp)]; exact hk1 _ _ hb.symm
  · rw [if_pos (show (!false) = true from rfl)]
    refine hk1 _ _ ?_
    unfold countOk
    rw [ha]; simp
theorem qRightZ (z : Zn) (h : ZI z) {K : Bool → Prop} (hk : K (zoneRight z)) : Xepactref19_Right (tupZ z) K := by
  show Xepactref19_Right (TV z.ty, RV z.tr, RV z.lp, S z.ft, z.v, ()) K
  unfold Xepactref19_Right Yepactref19_Right
  dsimp only
  have hl := h.lp
  have hty := h.ty
  have htr := h.tr
  unfold zoneRight at hk
  refine qCount z h fun r => ?_
  refine qRecRight z.lp h.ri (by omega) ?_
  refine qExpiry z.lp (by omega) fun n => ?_
  cases e1 : countOk z
  · rw [e1] at hk
    rw [if_pos (show (!false) = true from rfl)]
    simpa using hk
  rw [e1] at hk
  rw [if_neg (by simp)]
  cases e2 : recRight z.lp
  · rw [e2] at hk
    rw [if_pos (show (!false) = true from rfl)]
    simpa using hk
  rw [e2] at hk
  rw [if_neg (by simp)]
  have hv : 1 ≤ z.v ∧ z.v ≤ 4 := by
    unfold countOk nin at e1
    simp only [Bool.and_eq_true, decide_eq_true_eq] at e1
    exact e1.2
  have rest : ∀ {K : Bool → Prop}, K (z.ty.all (fun t => decide (-89999 ≤ t.1 ∧ t.1 ≤ 93599)) && trOk z.ty.length none z.tr && endsOk z) →
      lp (Lepactref19_Right_0 Xepactref18_Parse K) (((), false, 0, ()), (TV z.ty, RV z.tr, RV z.lp, S z.ft, z.v, ()), ()) := by
    intro K hk
    refine lp_ind (fun x => z.ty.length - x.1.2.2.1.toNat) (fun x => ∃ j : Nat, j ≤ z.ty.length ∧ x = (((), false, (j : Int), ()), (TV z.ty, RV z.tr, RV z.lp, S z.ft, z.v, ()), ()) ∧ (z.ty.drop j).all (fun t => decide (-89999 ≤ t.1 ∧ t.1 ≤ 93599)) = z.ty.all (fun t => decide (-89999 ≤ t.1 ∧ t.1 ≤ 93599))) ?_ ⟨0, by omega, rfl, rfl⟩
    rintro x ⟨j, hj, rfl, ha⟩ k hk2
    unfold Lepactref19_Right_0
    dsimp only
    rw [TV_len, Int.toNat_natCast]
    by_cases e : j < z.ty.length
    · have e1 : w64 ((j : Int) + 1) = ((j + 1 : Nat) : Int) := by rw [w64_in (by omega) (by omega)]; omega
      rw [List.drop_eq_getElem_cons e, List.all_cons] at ha
      rw [if_pos (decide_eq_true (by omega)), if_pos (by omega)]
      refine asT1 e ?_
      rw [if_pos (show 0 ≤ (j : Int) ∧ (j : Int) < z.ty.length by omega)]
      by_cases c1 : (z.ty[j]).1 < -89999
      · rw [if_pos (decide_eq_true c1)]
        rw [show decide (-89999 ≤ (z.ty[j]).1 ∧ (z.ty[j]).1 ≤ 93599) = false by simp; omega, Bool.false_and] at ha
        rw [← ha] at hk; simpa using hk
      rw [if_neg (dneg c1)]
      refine asT1 e ?_
      by_cases c2 : (z.ty[j]).1 > 93599
      · rw [if_pos (decide_eq_true c2)]
        rw [show decide (-89999 ≤ (z.ty[j]).1 ∧ (z.ty[j]).1 ≤ 93599) = false by simp; omega, Bool.false_and] at ha
        rw [← ha] at hk; simpa using hk
      rw [if_neg (dneg c2), e1]
      rw [show decide (-89999 ≤ (z.ty[j]).1 ∧ (z.ty[j]).1 ≤ 93599) = true by simp; omega, Bool.true_and] at ha
      exact hk2 _ ⟨j + 1, e, rfl, ha⟩ (by show z.ty.length - ((j + 1 : Nat) : Int).toNat < z.ty.length - ((j : Nat) : Int).toNat; omega)
    · have : j = z.ty.length := by omega
      subst this
      rw [if_neg (dneg (by omega))]
      rw [List.drop_length, List.all_nil] at ha
      rw [← ha, Bool.true_and] at hk
      clear hk2 ha
      refine lp_ind (fun x => z.tr.length - x.1.2.2.1.toNat) (fun x => ∃ (j : Nat) (b : Option Int), j ≤ z.tr.length ∧ x = (((), false, (j : Int), ()), (TV z.ty, RV z.tr, RV z.lp, S z.ft, z.v, ()), ()) ∧ trOk z.ty.length b (z.tr.drop j) = trOk z.ty.length none z.tr ∧ (j = 0 → b = none) ∧ (∀ (h0 : 0 < j) (hj : j - 1 < z.tr.length), b = some (z.tr[j - 1]).1)) ?_ ⟨0, none, by omega, rfl, rfl, fun _ => rfl, fun h => absurd h (by omega)⟩
      rintro x ⟨j, b, hj, rfl, hok, hb0, hb1⟩ k' hk'
      unfold Lepactref19_Right_1
      dsimp only
      rw [RV_len, TV_len, Int.toNat_natCast]
      by_cases e : j < z.tr.length
      · have e1 : w64 ((j : Int) + 1) = ((j + 1 : Nat) : Int) := by rw [w64_in (by omega) (by omega)]; omega
        rw [List.drop_eq_getElem_cons e] at hok
        have hcons := trOk_cons z.ty.length b z.tr[j] (z.tr.drop (j + 1))
        rw [hok] at hcons
        have bad : ¬ ((0 ≤ (z.tr[j]).2 ∧ (z.tr[j]).2 < z.ty.length) ∧ (∀ a, b = some a → (z.tr[j]).1 > a)) → K false := fun hn => by
          have : trOk z.ty.length none z.tr = false := by
            cases hr : trOk z.ty.length none z.tr
            · rfl
            · exact absurd (hcons.1 hr).1 hn
          rw [this] at hk; simpa using hk
        have good : ((0 ≤ (z.tr[j]).2 ∧ (z.tr[j]).2 < z.ty.length) ∧ (∀ a, b = some a → (z.tr[j]).1 > a)) → k' (((), false, ((j + 1 : Nat) : Int), ()), (TV z.ty, RV z.tr, RV z.lp, S z.ft, z.v, ()), ()) := fun hg => by
          refine hk' _ ⟨j + 1, some (z.tr[j]).1, by omega, rfl, ?_, fun h => absurd h (by omega), fun h0 hj => rfl⟩ ?_
          · rw [Bool.eq_iff_iff]
            exact ⟨fun hr => hcons.2 ⟨hg, hr⟩, fun hr => (hcons.1 hr).2⟩
          · show z.tr.length - ((j + 1 : Nat) : Int).toNat < z.tr.length - ((j : Nat) : Int).toNat
            omega
        rw [if_pos (decide_eq_true (by omega)), if_pos (by omega)]
        refine asR2 e ?_
        by_cases c1 : (z.tr[j]).2 < 0
        · rw [if_pos (decide_eq_true c1)]
          exact bad fun hn => by omega
        rw [if_neg (dneg c1), if_pos (by omega)]
        refine asR2 e ?_
        by_cases c2 : (z.tr[j]).2 ≥ (z.ty.length : Int)
        · rw [if_pos (decide_eq_true c2)]
          exact bad fun hn => by omega
        rw [if_neg (dneg c2), e1]
        by_cases c3 : j = 0
        · rw [if_neg (dneg (by omega))]
          exact good ⟨⟨by omega, by omega⟩, fun a ha => by rw [hb0 c3] at ha; cases ha⟩
        · have e2 : w64 ((j : Int) - 1) = ((j - 1 : Nat) : Int) := by rw [w64_in (by omega) (by omega)]; omega
          have hb := hb1 (by omega) (by omega)
          rw [if_pos (decide_eq_true (by omega)), if_pos (by omega)]
          refine asR1 e ?_
          rw [e2, if_pos (by omega), Int.toNat_natCast]
          refine asR1 (by omega) ?_
          by_cases c4 : (z.tr[j]).1 ≤ (z.tr[j - 1]'(by omega)).1
          · rw [if_pos (decide_eq_true c4)]
            exact bad fun hn => by have := hn.2 _ hb; omega
          · rw [if_neg (dneg c4)]
            exact good ⟨⟨by omega, by omega⟩, fun a ha => by rw [hb] at ha; cases ha; omega⟩
      · have : j = z.tr.length := by omega
        subst this
        rw [if_neg (dneg (by omega))]
        rw [List.drop_length] at hok
        have hok2 : trOk z.ty.length none z.tr = true := hok.symm
        rw [hok2, Bool.true_and] at hk
        rw [S_nil]
        unfold endsOk at hk
        cases e : z.ft.isEmpty
        · rw [e, Bool.false_or] at hk
          rw [if_neg (by simp)]
          refine rfootParse z.ft (by have := h.ft; omega) ?_
          have hb : ∀ b, b = ((Ft.parse z.ft).2 && decide (z.v ≥ if (oddR (Ft.parse z.ft).1.fr.x || oddR (Ft.parse z.ft).1.to.x) = true then 3 else 2)) → K b := fun b e => e ▸ hk
          have q1 : ∀ f : Ft, (tupFt f).2.2.2.2.2.2.2.2.2.2.2.1 = f.fr.x := fun _ => rfl
          have q2 : ∀ f : Ft, (tupFt f).2.2.2.2.2.2.2.2.2.2.2.2.2.2.2.2.1 = f.to.x := fun _ => rfl
          rw [q1, q2]
          generalize (Ft.parse z.ft).1.fr.x = a at *
          generalize (Ft.parse z.ft).1.to.x = c at *
          generalize (Ft.parse z.ft).2 = o at *
          unfold oddR at hb
          cases o
          · simp only [Bool.false_and, if_false, Bool.false_eq_true] at hb ⊢
            have := hb _ rfl
            repeat' split
            all_goals exact this
          · simp only [Bool.true_and, if_true, decide_eq_true_eq, Bool.or_eq_true, Bool.not_eq_true', decide_eq_false_iff_not] at hb ⊢
            repeat' split
            all_goals first
              | (refine hb _ ?_; symm; rw [decide_eq_true_eq]; split <;> omega)
              | (refine hb _ ?_; symm; rw [decide_eq_false_iff_not]; split <;> omega)
              | (refine hb _ ?_; rw [decide_eq_decide]; split <;> omega)
        · rw [e] at hk
          rw [if_pos rfl]; exact hk
  cases e3 : lastExp z.lp
  · rw [e3] at hk
    rw [if_neg (by simp)]
    exact rest (by simpa [Bool.and_assoc] using hk)
  · rw [e3] at hk
    rw [if_pos rfl]
    by_cases e6 : z.v = 4
    · rw [if_neg (by simpa using e6)]
      have : decide (z.v ≥ 4) = true := by simp; omega
      rw [this] at hk
      exact rest (by simpa [Bool.and_assoc] using hk)
    · rw [if_pos (by simpa using e6)]
      have : decide (z.v ≥ 4) = false := by simp; omega
      rw [this] at hk
      simpa using hk
end Go.Proofs.YtenaflbcnkalbaaGreatDoor
end
section
set_option linter.unusedVariables false
set_option linter.unusedSimpArgs false
namespace Go.Proofs.YtenaflbcnkalbaaGreatDoor
open Go Go.Proofs.YtenaflbcnkalbaaGreatDoor.Eng Go.Proofs.YtenaflbcnkalbaaGreatDoor.Pl
set_option linter.unusedVariables false
set_option linter.unusedSimpArgs false
set_option maxRecDepth 100000
set_option maxHeartbeats 4000000
theorem qIndex (z : Zn) (hz : ZI z) (hs : Srt z.tr) (a : Int) {K : Int → Prop} (h : K ((indexN z a : Int) - 1)) : Xepactref19_Index (tupZ z) a K := by
  show Xepactref19_Index (TV z.ty, RV z.tr, RV z.lp, S z.ft, z.v, ()) a K
  unfold Xepactref19_Index Yepactref19_Index
  have htr := hz.tr
  unfold indexN at h
  have hle := fl_le (fun c : Rec => decide (c.1 > a)) z.tr
  have hsp := fl_spec (fun c : Rec => decide (c.1 > a)) z.tr
  generalize hf : Pl.fl (fun c : Rec => decide (c.1 > a)) z.tr = f at *
  refine lp_at (fun j => ((a, (), (0 : Int), ((min j f : Nat) : Int) - 1, (j : Int), ()), (TV z.ty, RV z.tr, RV z.lp, S z.ft, z.v, ()), ())) z.tr.length (by simp) fun j hj k hk => ?_
  unfold Lepactref19_Index_0
  dsimp only
  rw [RV_len, Int.toNat_natCast]
  by_cases e : j < z.tr.length
  · have e1 : w64 ((j : Int) + 1) = ((j + 1 : Nat) : Int) := by rw [w64_in (by omega) (by omega)]; omega
    rw [if_pos (decide_eq_true (by omega)), if_pos (by omega)]
    refine asR1 e ?_
    have hk' := hk e
    by_cases c : j < f
    · have := (hsp j e).1 c
      rw [if_pos (decide_eq_true (by simpa using this)), e1]
      rw [show min (j + 1) f = j + 1 by omega, show ((j + 1 : Nat) : Int) - 1 = (j : Int) by omega] at hk'
      exact hk'
    · have hfl : f < z.tr.length := by omega
      have h2 := (hsp f hfl).2 rfl
      have h3 := hs f j hfl e (by omega)
      simp only [decide_eq_true_eq] at h2
      rw [if_neg (dneg (by omega)), e1]
      rw [show min (j + 1) f = min j f by omega] at hk'
      exact hk'
  · rw [if_neg (dneg (by omega))]
    rw [show min j f = f by omega]; exact h
theorem qPosix (z : Zn) (h : ZR z) (a : Int) {K : Int → Prop} (hk : K (posixR z a)) : Xepactref19_Posix (tupZ z) a K := by
  show Xepactref19_Posix (TV z.ty, RV z.tr, RV z.lp, S z.ft, z.v, ()) a K
  unfold Xepactref19_Posix Yepactref19_Posix
  exact qSum z.lp (srt_rec h.all.2.1) (by have := h.lp; omega) a hk
theorem ok_names {f : Ft} (h : f.ok = true) : f.sa.length ≤ 16 ∧ f.wa.length ≤ 16 := by
  unfold Ft.ok kindR abbrL at h
  rw [Bool.and_eq_true] at h
  obtain ⟨h1, h2⟩ := h
  simp only [Bool.and_eq_true, decide_eq_true_eq] at h1
  refine ⟨by omega, ?_⟩
  by_cases e : f.has = true
  · rw [if_pos e] at h2
    simp only [Bool.and_eq_true, decide_eq_true_eq] at h2
    omega
  · rw [if_neg e] at h2
    have h3 : f.bare := of_decide_eq_true h2
    rw [h3.2.2.1]; simp
theorem qFoot (f : Ft) (p : Int) (hp : -9223372036854775808 ≤ p ∧ p ≤ 9223372036854775807) (hf : f.ok = true) {K} (h : K (tupT (f.look p))) : Xepactref18_Lookup (tupFt f) p K := by
  obtain ⟨o1, o2, _⟩ := ok_so hf
  obtain ⟨n1, n2⟩ := ok_names hf
  refine rfootLookup f p (by unfold i64; omega) (by unfold i64; omega) (by omega) (by omega) ?_
  unfold Ft.look at h
  by_cases e : f.sum p
  · rw [if_pos e] at h ⊢; exact h
  · rw [if_neg e] at h ⊢; exact h
theorem qLookup (z : Zn) (h : ZR z) (a : Int) {K} (hk : K (tupT (lookZ z a))) : Xepactref19_Lookup (tupZ z) a K := by
  unfold Xepactref19_Lookup Yepactref19_Lookup
  refine qIndex z h.toZI h.st a ?_
  have hle := fl_le (fun c : Rec => decide (c.1 > a)) z.tr
  have htr := h.tr
  have h1 := h.one
  unfold lookZ at hk
  have hn : indexN z a = Pl.fl (fun c : Rec => decide (c.1 > a)) z.tr := rfl
  rw [← hn] at hle
  generalize indexN z a = m at *
  have e1 : w64 ((z.tr.length : Int) - 1) = (z.tr.length : Int) - 1 := w64_in (by omega) (by omega)
  simp only [tupZ_eq, S_nil, TV_len, RV_len, e1]
  have found : ¬ (z.ft ≠ [] ∧ m = z.tr.length) → (if decide ((m : Int) - 1 < 0) = true then
      (if (0 : Int) ≤ 0 ∧ 0 < (z.ty.length : Int) then
      (Eng.asInt IntKind.i64 (Eng.getC (TV z.ty) (0 : Nat) (0 : Nat)) False fun n7 =>
      (Eng.asBool (Eng.getC (TV z.ty) (0 : Nat) (1 : Nat)) False fun b8 =>
      (Eng.asStr (Eng.getC (TV z.ty) (0 : Nat) (2 : Nat)) False fun t9 => K (n7, b8, t9, ())))) else False)
      else
      (if 0 ≤ (m : Int) - 1 ∧ (m : Int) - 1 < (z.tr.length : Int) then
      (Eng.asInt IntKind.i64 (Eng.getC (RV z.tr) (Int.toNat ((m : Int) - 1)) (1 : Nat)) False fun n10 =>
      (if 0 ≤ n10 ∧ n10 < (z.ty.length : Int) then
      (Eng.asInt IntKind.i64 (Eng.getC (TV z.ty) (Int.toNat n10) (0 : Nat)) False fun n11 =>
      (Eng.asBool (Eng.getC (TV z.ty) (Int.toNat n10) (1 : Nat)) False fun b12 =>
      (Eng.asStr (Eng.getC (TV z.ty) (Int.toNat n10) (2 : Nat)) False fun t13 => K (n11, b12, t13, ()))))
      else False)) else False)) := fun hno => by
    rw [if_neg hno] at hk
    by_cases hm : m = 0
    · subst hm
      rw [if_pos (by simp), if_pos (by omega)]
      refine asT1 (by omega) (asT2 (by omega) (asT3 (by omega) ?_))
      have := headD_at z.ty (0, false, []) (by omega)
      simp only [List.take_zero, List.getLast?_nil] at hk
      rw [this] at hk
      exact hk
    · rw [if_neg (by simp; omega), if_pos (by omega)]
      have e2 : Int.toNat ((m : Int) - 1) = m - 1 := by omega
      rw [e2]
      refine asR2 (by omega) ?_
      obtain ⟨_, q1, q2⟩ := (trOk_all _ _ _ h.all.2.2.2.2.1).1 (m - 1) (by omega)
      have hl : (z.tr.take m).getLast? = some (z.tr[m - 1]'(by omega)) := by
        rw [List.getLast?_eq_getElem?, List.length_take, Nat.min_eq_left hle, List.getElem?_take, if_pos (by omega), List.getElem?_eq_getElem (by omega)]
      rw [hl] at hk
      simp only at hk
      rw [if_pos ⟨q1, q2⟩]
      refine asT1 (by omega) (asT2 (by omega) (asT3 (by omega) ?_))
      rw [getD_at z.ty _ _ (by omega)] at hk
      exact hk
  cases e : z.ft.isEmpty
  · have hne : z.ft ≠ [] := by
      intro hh; rw [hh] at e; cases e
    rw [if_pos (show (!false) = true from rfl)]
    by_cases hm : m = z.tr.length
    · rw [if_pos (by simp [hm])]
      rw [if_pos ⟨hne, hm⟩] at hk
      have hp : (Ft.parse z.ft).2 = true := by
        have := h.all.2.2.2.2.2
        unfold endsOk at this
        rw [e] at this
        simp only [Bool.false_or, Bool.and_eq_true] at this
        exact this.1
      refine rfootParse z.ft (by have := h.ft; omega) ?_
      refine qPosix z h a ?_
      exact qFoot _ _ (w64_rng _) (parse_ok _ hp) hk
    · rw [if_neg (by simp; omega)]
      exact found fun hh => hm hh.2
  · have hne : z.ft = [] := by
      cases hz : z.ft with
      | nil => rfl
      | cons x r => rw [hz] at e; cases e
    rw [if_neg (by simp)]
    exact found fun hh => hh.1 hne
end Go.Proofs.YtenaflbcnkalbaaGreatDoor
end
section
set_option linter.unusedVariables false
set_option linter.unusedSimpArgs false
namespace Go.Proofs.YtenaflbcnkalbaaGreatDoor
open Go Go.Proofs.YtenaflbcnkalbaaGreatDoor.Eng Go.Proofs.YtenaflbcnkalbaaGreatDoor.Pl
set_option linter.unusedVariables false
set_option linter.unusedSimpArgs false
set_option maxRecDepth 100000
set_option maxHeartbeats 4000000
theorem tsmall {K : Bool → Prop} (h : K true) : Xepactlaw19_small K := by
  unfold Xepactlaw19_small Yepactlaw19_small
  refine zCopy zA iA fun f g i hg => ?_
  have hg0 : g = false := by
    cases g
    · rfl
    · have := hg rfl; cases this
  subst hg0
  rw [if_neg (show ¬ ((((RV zA.tr).length : Nat) : Int) != 2) = true by rw [RV_len]; decide), if_pos (show (0 : Int) ≤ 0 ∧ 0 < (((RV zA.tr).length : Nat) : Int) by rw [RV_len]; decide), if_pos rfl, if_pos (show 0 < (RV zA.tr).length by rw [RV_len]; decide)]
  refine sRight zA iA ?_
  rw [rA, if_pos rfl]
  refine sRight zB iB ?_
  rw [rB, if_pos rfl]
  refine sRight zC iC ?_
  rw [rC, if_pos (show (!false) = true from rfl)]
  refine sRight zD iD ?_
  rw [rD, if_pos (show (!false) = true from rfl)]
  refine sRight zE iE ?_
  rw [rE, if_pos rfl]
  have hA : ZR zA := ⟨iA, rA⟩
  have hB : ZR zB := ⟨iB, rB⟩
  have hE : ZR zE := ⟨iE, rE⟩
  refine zIndex zA iA hA.st 99 ?_
  rw [nA1, if_pos (by decide)]
  refine zIndex zA iA hA.st 100 ?_
  rw [nA2, if_pos (by decide)]
  refine zIndex zA iA hA.st 300 ?_
  rw [nA3, if_pos (by decide)]
  refine zLookup zA hA 50 ?_
  simp only [lt]
  rw [if_pos (tyB _ _ _ _ lA1)]
  refine zLookup zA hA 150 ?_
  rw [if_pos (tyB _ _ _ _ lA2)]
  refine dup_of ?_
  refine zLookup zA hA 1710054000 ?_
  rw [if_pos (tyB _ _ _ _ lA3)]
  refine zLookup zB hB 1710054000 ?_
  rw [if_pos (tyB _ _ _ _ lB1)]
  refine zPosix zE hE 78796800 ?_
  rw [pE1, if_pos (by decide)]
  refine zPosix zE hE 78796799 ?_
  rw [pE2, if_pos (by decide)]
  refine zSame zF zA iF iA ?_
  rw [sF, if_pos (show (!false) = true from rfl)]
  refine zCopy zA iA fun f g i hg => ?_
  refine zSame zA zA iA iA ?_
  rw [sA]
  exact h
theorem lZoneTells (z : Zn) (hg : ZG z) (a : Int) (y : Zn) (hy : ZG y) {K : Bool → Prop} (h : K true) : Xepactlaw19_ZoneTells (tupZ z) a (tupZ y) K := by
  rw [Xepactlaw19_ZoneTells, Yepactlaw19_ZoneTells]
  refine tsmall (sFew z hg.tl (fun hf => sFew y hy.tl (fun hf' => ?_) ?_) (sFew y hy.tl (fun hf' => ?_) ?_))
  rotate_left
  · rw [if_neg (by simp), if_pos (by rfl)]; exact h
  · rw [if_pos (by rfl)]; exact h
  · rw [if_pos (by rfl)]; exact h
  rw [if_neg (by simp), if_neg (by simp)]
  have hz := hg.zi hf
  have hz' := hy.zi hf'
  have h1 := hz.ty
  have h2 := hz.tr
  have h3 := hz.lp
  refine sRight z hz (qRightZ z hz ?_)
  rw [if_neg (by simp)]
  refine zSame z y hz hz' (qSame16 z y (by omega) (by omega) (by omega) ?_)
  rw [if_neg (by simp)]
  refine zCopy z hz fun f g i _ => ?_
  refine qSame16 z z (by omega) (by omega) (by omega) ?_
  have ss : sameZ z z = true := by unfold sameZ; simp
  rw [ss, if_neg (by simp)]
  refine qRightZ z hz ?_
  cases hr : zoneRight z
  · rw [if_pos (by rfl)]; exact h
  rw [if_neg (by simp)]
  have hzr : ZR z := ⟨hz, hr⟩
  by_cases e3 : a < -1152921504606846976
  · rw [if_pos (decide_eq_true e3)]; exact h
  rw [if_neg (dneg e3)]
  by_cases e4 : a > 1152921504606846976
  · rw [if_pos (decide_eq_true e4)]; exact h
  rw [if_neg (dneg e4), if_pos rfl]
  refine zIndex z hz hzr.st a (qIndex z hz hzr.st a ?_)
  rw [if_pos (by simp)]
  refine zPosix z hzr a (qPosix z hzr a ?_)
  rw [if_pos (by simp)]
  refine zLookup z hzr a (qLookup z hzr a ?_)
  simp only [lt]
  simpa using h
end Go.Proofs.YtenaflbcnkalbaaGreatDoor
end
section
set_option linter.unusedVariables false
set_option linter.unusedSimpArgs false
namespace Go.Proofs.YtenaflbcnkalbaaGreatDoor
open Go Go.Proofs.YtenaflbcnkalbaaGreatDoor.Eng Go.Proofs.YtenaflbcnkalbaaGreatDoor.Pl
set_option linter.unusedVariables false
set_option linter.unusedSimpArgs false
theorem wfI {n : Int} (h : (Lit.int .i64 n).wf = true) : i64r n := by
  simp [Lit.wf, IntKind.min, IntKind.max, IntKind.bits, IntKind.signed] at h
  unfold i64r; omega
theorem zone_of (tys : List (Int × Bool × ByteArray × Unit)) (trs lps : List (Int × Int × Unit)) (ft : ByteArray) (v : Int) (h1 : tys.length ≤ 9223372036854775807)
    (h2 : ∀ c ∈ trs, (Lit.int .i64 c.1).wf = true ∧ (Lit.int .i64 c.2.1).wf = true ∧ True) (h3 : ∀ c ∈ lps, (Lit.int .i64 c.1).wf = true ∧ (Lit.int .i64 c.2.1).wf = true ∧ True) (h4 : (Lit.int .i64 v).wf = true) :
    ∃ z, ZG z ∧ ((tys.map fun x => V.agg [.c (.int .i64 x.1), .c (.bool x.2.1), .c (.string x.2.2.1)], trs.map fun x => V.agg [.c (.int .i64 x.1), .c (.int .i64 x.2.1)], lps.map fun x => V.agg [.c (.int .i64 x.1), .c (.int .i64 x.2.1)], ft, v, ()) : List V × List V × List V × ByteArray × Int × Unit) = tupZ z := by
  have rcI : ∀ l : List (Int × Int × Unit), (∀ c ∈ l, (Lit.int .i64 c.1).wf = true ∧ (Lit.int .i64 c.2.1).wf = true ∧ True) → recI (l.map fun c => (c.1, c.2.1)) := fun l hl c hc => by
    obtain ⟨d, hd, rfl⟩ := List.mem_map.1 hc
    exact ⟨wfI (hl d hd).1, wfI (hl d hd).2.1⟩
  refine ⟨⟨tys.map fun t => (t.1, t.2.1, t.2.2.1.data.toList), trs.map fun c => (c.1, c.2.1), lps.map fun c => (c.1, c.2.1), ft.data.toList, v⟩, ⟨rcI lps h3, rcI trs h2, wfI h4, by simpa using h1⟩, ?_⟩
  unfold tupZ
  simp only [List.map_map]
  rfl
abbrev akZ : AK := (.st (.cons (.sl (.st (.cons (.int .i64) (.cons .bool (.cons .str .nil))))) (.cons (.sl (.st (.cons (.int .i64) (.cons (.int .i64) .nil)))) (.cons (.sl (.st (.cons (.int .i64) (.cons (.int .i64) .nil)))) (.cons .str (.cons (.int .i64) .nil))))))
theorem zone_in (a : akZ.T) (h : akZ.good a) : ∃ z, ZG z ∧ (akZ.DV a : List V × List V × List V × ByteArray × Int × Unit) = tupZ z := by
  obtain ⟨tys, trs, lps, ft, v, u⟩ := a
  obtain ⟨h1, h2, h3, h4, h5, h6⟩ := h
  exact zone_of tys trs lps ft v h1.1 h2.2 h3.2 h5
end Go.Proofs.YtenaflbcnkalbaaGreatDoor
end
section
set_option linter.unusedVariables false
set_option linter.unusedSimpArgs false
namespace Go.Proofs.YtenaflbcnkalbaaGreatDoor
open Go Go.Proofs.YtenaflbcnkalbaaGreatDoor.Eng Go.Proofs.YtenaflbcnkalbaaGreatDoor.Pl
theorem pureZoneTells : PureZoneTells := by
  intro a0 h0 a1 h1 a2 h2
  obtain ⟨z, hz, e⟩ := zone_in a0 h0
  obtain ⟨y, hy, e'⟩ := zone_in a2 h2
  rw [show (akZoneTells0.DV a0 : List V × List V × List V × ByteArray × Int × Unit) = tupZ z from e, show (akZoneTells2.DV a2 : List V × List V × List V × ByteArray × Int × Unit) = tupZ y from e']
  exact lZoneTells z hz _ y hy rfl
end Go.Proofs.YtenaflbcnkalbaaGreatDoor
end
